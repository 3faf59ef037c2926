/- The functions that the statement reaches, part 1: bodies and what they compute. No condition. -/
import Derived.Test.YtjaideekkbpalaaGreatA1
import Derived.Test.YtjaideekkbpalaaGreatB8
import Derived.Test.YtjaideekkbpalaaGreatB6
import Derived.Test.YtjaideekkbpalaaGreatB5
namespace Go.Proofs.YtjaideekkbpalaaGreat.A
open _root_.Bool renaming not_eq_true→QO,eq_iff_iff→QT
open _root_.List renaming flatten_cons→Qa,mem_append→Qb,nodup_append→Qc,getElem?_eq_getElem→Qd,mem_cons_of_mem→Qh,findIdx?_eq_some_iff_getElem→Qi,nodup_cons→Qj,mem_of_getElem?→Qk,mem_cons→Ql,getElem?_cons_zero→Qm,getElem?_set_self→Qo,append_nil→Qp,mem_flatten→Qq,flatten_nil→Qs,findIdx?_eq_none_iff→Qt,getElem?_eq_none→Qu,mem_iff_getElem→Qv,eq_nil_of_length_eq_zero→Qw,take_add_one→Qy,all_eq_true→Qz,take_length→QA,getElem?_cons_succ→QB,take_of_length_le→QC,length_nil→QD,length_map→QE,length_singleton→QF,getElem?_set_ne→QG,drop_zero→QH,flatten_append→QI,length_append→QJ,set_cons_zero→QL,set_cons_succ→QM,ext_getElem?→QN,getElem_mem→QP,nil_append→QQ,range_succ→QR,all_append→QS,head?_cons→QU,nodup_nil→QV,take_one→QW
open _root_.Nat renaming le_refl→Qe,not_lt_zero→Qg,lt_of_lt_of_le→Qn,zero_add→Qr,le_trans→Qx,zero_le→QX
open _root_.Option renaming bind_some→Qf,toList_some→QK
open Go
set_option linter.unusedSimpArgs false
set_option linter.unusedVariables false
def r209L0:RC:=
 .seq (.reg [⟨none,.bin 14 .lss (.t 13) (.t 12)⟩])
 (.seq (.cond (.t 14)
 (.skip)
 (.exit 0))
 (.seq (.block 1 (.seq (.reg [⟨none,.idx 15 11 (.t 11) (.t 13)⟩,
 ⟨none,.load 16 15 5 true⟩,
 ⟨none,.loc 7 [.int .u64 0,.int .u64 0,.int .u64 0,.int .u64 0,.int .i64 0]⟩,
 ⟨none,.store 7 5 (.t 16)⟩])
 (.seq (.reg [⟨none,.mov 18 (.t 5)⟩,
 ⟨none,.fad 19 7 1⟩,
 ⟨none,.load 20 19 1 false⟩,
 ⟨none,.fad 21 7 2⟩,
 ⟨none,.load 22 21 1 false⟩,
 ⟨none,.bin 23 .add (.t 20) (.t 22)⟩,
 ⟨none,.add 24 (.t 18) (.t 23) (.k (.int .u64 0))⟩,
 ⟨none,.mov 17 (.t 24)⟩,
 ⟨none,.ext 25 (.t 17) 0⟩,
 ⟨none,.ext 26 (.t 17) 1⟩,
 ⟨none,.mov 8 (.t 25)⟩,
 ⟨none,.mov 9 (.t 26)⟩])
 (.seq (.reg [⟨none,.mov 27 (.t 8)⟩,
 ⟨none,.mov 5 (.t 27)⟩])
 (.reg [⟨none,.mov 28 (.t 4)⟩,
 ⟨none,.mov 29 (.t 9)⟩,
 ⟨none,.bin 30 .add (.t 28) (.t 29)⟩,
 ⟨none,.mov 4 (.t 30)⟩])))))
 (.reg [⟨none,.bin 31 .add (.t 13) (.k (.int .i64 1))⟩,
 ⟨none,.mov 13 (.t 31)⟩])))
def r209:RF:=
 ⟨1,[.tmp 2,.tmp 3],
 .seq (.reg [⟨none,.locb 1 (.t 0)⟩,
 ⟨none,.mov 2 (.k (.int .u64 0))⟩,
 ⟨none,.mov 3 (.k (.int .u64 0))⟩])
 (.seq (.reg [⟨none,.mov 4 (.k (.int .u64 0))⟩,
 ⟨none,.mov 5 (.k (.int .u64 0))⟩])
 (.seq (.seq (.reg [⟨none,.fad 10 1 0⟩,
 ⟨none,.load 11 10 1 false⟩,
 ⟨none,.len 12 (.t 11)⟩,
 ⟨none,.mov 13 (.k (.int .i64 0))⟩])
 (.block 0 (.loop [4,5,11,12,13]
 r209L0)))
 (.seq (.reg [⟨none,.mov 32 (.t 4)⟩,
 ⟨none,.mov 33 (.t 5)⟩,
 ⟨none,.mov 2 (.t 32)⟩,
 ⟨none,.mov 3 (.t 33)⟩])
 (.ret))))⟩
def r260:RF:=
 ⟨1,[.cell 2 1 true],
 .seq (.reg [⟨none,.locb 1 (.t 0)⟩,
 ⟨none,.loc 2 [.nil]⟩])
 (.seq (.reg [⟨none,.lit 3 11 0 [.int .u64 0,.int .u64 0,.int .u64 0,.int .u64 0,.int .i64 0] []⟩,
 ⟨none,.fad 4 1 0⟩,
 ⟨none,.load 5 4 1 false⟩,
 ⟨none,.app 6 11 40 (.t 3) (.t 5)⟩,
 ⟨none,.build 7 [.nil] [(0,1,(.t 6))]⟩,
 ⟨none,.store 2 1 (.t 7)⟩])
 (.ret))⟩
def r265L0:RC:=
 .seq (.reg [⟨none,.bin 13 .lss (.t 12) (.t 11)⟩])
 (.seq (.cond (.t 13)
 (.skip)
 (.exit 0))
 (.seq (.block 1 (.seq (.reg [⟨none,.mov 14 (.t 12)⟩,
 ⟨none,.idx 15 11 (.t 10) (.t 12)⟩,
 ⟨none,.load 16 15 5 true⟩,
 ⟨none,.loc 4 [.int .u64 0,.int .u64 0,.int .u64 0,.int .u64 0,.int .i64 0]⟩,
 ⟨none,.mov 3 (.t 14)⟩,
 ⟨none,.store 4 5 (.t 16)⟩])
 (.seq (.reg [⟨none,.fad 18 4 1⟩,
 ⟨none,.load 19 18 1 false⟩,
 ⟨none,.fad 20 4 2⟩,
 ⟨none,.load 21 20 1 false⟩,
 ⟨none,.add 22 (.t 19) (.t 21) (.k (.int .u64 0))⟩,
 ⟨none,.mov 17 (.t 22)⟩,
 ⟨none,.ext 23 (.t 17) 0⟩,
 ⟨none,.ext 24 (.t 17) 1⟩,
 ⟨none,.mov 5 (.t 23)⟩,
 ⟨none,.mov 6 (.t 24)⟩])
 (.seq (.reg [⟨none,.fad 26 4 1⟩,
 ⟨none,.load 27 26 1 false⟩,
 ⟨none,.fad 28 4 2⟩,
 ⟨none,.load 29 28 1 false⟩,
 ⟨none,.bin 30 .add (.t 27) (.t 29)⟩,
 ⟨none,.fad 31 4 3⟩,
 ⟨none,.load 32 31 1 false⟩,
 ⟨none,.add 33 (.t 30) (.t 32) (.k (.int .u64 0))⟩,
 ⟨none,.mov 25 (.t 33)⟩,
 ⟨none,.ext 34 (.t 25) 0⟩,
 ⟨none,.ext 35 (.t 25) 1⟩,
 ⟨none,.mov 7 (.t 34)⟩,
 ⟨none,.mov 8 (.t 35)⟩])
 (.seq (.reg [⟨none,.chk []⟩,
 ⟨none,.mov 36 (.t 6)⟩,
 ⟨none,.mov 37 (.t 8)⟩,
 ⟨none,.bin 38 .add (.t 36) (.t 37)⟩,
 ⟨none,.bin 39 .gtr (.t 38) (.k (.int .u64 0))⟩,
 ⟨none,.mov 40 (.t 39)⟩,
 ⟨some (40,false),.fad 41 4 4⟩,
 ⟨some (40,false),.load 42 41 1 false⟩,
 ⟨some (40,false),.bin 43 .lss (.t 42) (.k (.int .i64 0))⟩,
 ⟨none,.pick 44 (.t 40) (.k (.bool true)) (.t 43)⟩,
 ⟨none,.mov 45 (.t 44)⟩,
 ⟨some (45,false),.fad 46 4 4⟩,
 ⟨some (45,false),.load 47 46 1 false⟩,
 ⟨some (45,false),.bin 48 .eql (.t 47) (.k (.int .i64 0))⟩,
 ⟨some (45,false),.mov 49 (.t 48)⟩,
 ⟨some (49,true),.fad 50 4 2⟩,
 ⟨some (49,true),.load 51 50 1 false⟩,
 ⟨some (49,true),.bin 52 .neq (.t 51) (.k (.int .u64 0))⟩,
 ⟨some (49,true),.mov 53 (.t 52)⟩,
 ⟨some (53,false),.fad 54 4 3⟩,
 ⟨some (53,false),.load 55 54 1 false⟩,
 ⟨some (53,false),.bin 56 .neq (.t 55) (.k (.int .u64 0))⟩,
 ⟨some (49,true),.pick 57 (.t 53) (.k (.bool true)) (.t 56)⟩,
 ⟨some (45,false),.pick 58 (.t 49) (.t 57) (.k (.bool false))⟩,
 ⟨none,.pick 59 (.t 45) (.k (.bool true)) (.t 58)⟩,
 ⟨none,.mov 60 (.t 59)⟩,
 ⟨some (60,false),.mov 61 (.t 3)⟩,
 ⟨some (60,false),.bin 62 .gtr (.t 61) (.k (.int .i64 0))⟩,
 ⟨some (60,false),.mov 63 (.t 62)⟩,
 ⟨some (63,true),.mov 66 (.t 3)⟩,
 ⟨some (63,true),.bin 67 .sub (.t 66) (.k (.int .i64 1))⟩,
 ⟨some (63,true),.fad 64 1 0⟩,
 ⟨some (63,true),.load 65 64 1 false⟩,
 ⟨some (63,true),.idx 68 11 (.t 65) (.t 67)⟩,
 ⟨some (63,true),.fad 69 68 0⟩,
 ⟨some (63,true),.load 70 69 1 false⟩,
 ⟨some (63,true),.fad 71 4 0⟩,
 ⟨some (63,true),.load 72 71 1 false⟩,
 ⟨some (63,true),.bin 73 .geq (.t 70) (.t 72)⟩,
 ⟨some (60,false),.pick 74 (.t 63) (.t 73) (.k (.bool false))⟩,
 ⟨none,.pick 75 (.t 60) (.k (.bool true)) (.t 74)⟩])
 (.cond (.t 75)
 (.seq (.reg [⟨none,.mov 2 (.k (.bool false))⟩])
 (.ret))
 (.skip)))))))
 (.reg [⟨none,.bin 76 .add (.t 12) (.k (.int .i64 1))⟩,
 ⟨none,.mov 12 (.t 76)⟩])))
def r265:RF:=
 ⟨1,[.tmp 2],
 .seq (.reg [⟨none,.locb 1 (.t 0)⟩,
 ⟨none,.mov 2 (.k (.bool false))⟩])
 (.seq (.seq (.reg [⟨none,.fad 9 1 0⟩,
 ⟨none,.load 10 9 1 false⟩,
 ⟨none,.len 11 (.t 10)⟩,
 ⟨none,.mov 12 (.k (.int .i64 0))⟩])
 (.block 0 (.loop [1,10,11,12]
 r265L0)))
 (.seq (.reg [⟨none,.fad 77 1 0⟩,
 ⟨none,.load 78 77 1 false⟩,
 ⟨none,.len 79 (.t 78)⟩,
 ⟨none,.bin 80 .leq (.t 79) (.k (.int .i64 40))⟩,
 ⟨none,.mov 2 (.t 80)⟩])
 (.ret)))⟩
def tI10:List (Nat×RF):=[(209,r209),(260,r260),(265,r265)]
def r7:RF:=
 ⟨1,[.tmp 2],
 .seq (.reg [⟨none,.mov 2 (.k (.bool false))⟩])
 (.seq (.reg [⟨none,.mov 3 (.t 0)⟩,
 ⟨none,.bin 4 .geq (.t 3) (.k (.int .i64 0))⟩,
 ⟨none,.mov 5 (.t 4)⟩,
 ⟨some (5,true),.mov 6 (.t 0)⟩,
 ⟨some (5,true),.bin 7 .leq (.t 6) (.k (.int .i64 99))⟩,
 ⟨none,.pick 8 (.t 5) (.t 7) (.k (.bool false))⟩,
 ⟨none,.mov 2 (.t 8)⟩])
 (.ret))⟩
def tI11:List (Nat×RF):=[(7,r7)]
def r157:RF:=
 ⟨1,[.tmp 2],
 .seq (.reg [⟨none,.locb 1 (.t 0)⟩,
 ⟨none,.mov 2 (.k (.bool false))⟩])
 (.seq (.reg [⟨none,.load 3 1 3 true⟩,
 ⟨none,.call (some 4) 206 [(.t 3)] false⟩,
 ⟨none,.mov 2 (.t 4)⟩])
 (.ret))⟩
def r190:RF:=
 ⟨2,[.cell 4 6 true,.tmp 5],
 .seq (.reg [⟨none,.locb 2 (.t 0)⟩,
 ⟨none,.loc 4 [.int .u64 0,.int .u64 0,.int .i64 0,.int .i64 0,.nil,.nil]⟩,
 ⟨none,.mov 5 (.k (.bool false))⟩])
 (.seq (.reg [⟨none,.load 7 2 3 true⟩,
 ⟨none,.mov 8 (.t 1)⟩,
 ⟨none,.call (some 9) 213 [(.t 7),(.t 8),(.k (.int .i64 1))] false⟩,
 ⟨none,.mov 6 (.t 9)⟩])
 (.seq (.seq (.reg [⟨none,.load 10 2 3 true⟩,
 ⟨none,.call (some 11) 206 [(.t 10)] false⟩,
 ⟨none,.not 12 (.t 11)⟩,
 ⟨none,.mov 13 (.t 12)⟩,
 ⟨some (13,false),.mov 14 (.t 6)⟩,
 ⟨some (13,false),.bin 15 .lss (.t 14) (.k (.int .i64 0))⟩,
 ⟨none,.pick 16 (.t 13) (.k (.bool true)) (.t 15)⟩])
 (.cond (.t 16)
 (.seq (.reg [⟨none,.build 17 [.int .u64 0,.int .u64 0,.int .i64 0,.int .i64 0,.nil,.nil] []⟩,
 ⟨none,.store 4 6 (.t 17)⟩,
 ⟨none,.mov 5 (.k (.bool false))⟩])
 (.ret))
 (.skip)))
 (.seq (.reg [⟨none,.fad 18 2 2⟩,
 ⟨none,.load 19 18 1 false⟩,
 ⟨none,.mov 20 (.t 6)⟩,
 ⟨none,.idx 21 16 (.t 19) (.t 20)⟩,
 ⟨none,.load 22 21 6 true⟩,
 ⟨none,.call (some 23) 229 [(.t 22)] false⟩,
 ⟨none,.store 4 6 (.t 23)⟩,
 ⟨none,.mov 5 (.k (.bool true))⟩])
 (.ret))))⟩
def r206L0:RC:=
 .seq (.reg [⟨none,.bin 29 .lss (.t 28) (.t 27)⟩])
 (.seq (.cond (.t 29)
 (.skip)
 (.exit 0))
 (.seq (.block 1 (.seq (.reg [⟨none,.mov 30 (.t 28)⟩,
 ⟨none,.idx 31 16 (.t 26) (.t 28)⟩,
 ⟨none,.load 32 31 6 true⟩,
 ⟨none,.loc 4 [.int .u64 0,.int .u64 0,.int .i64 0,.int .i64 0,.nil,.nil]⟩,
 ⟨none,.mov 3 (.t 30)⟩,
 ⟨none,.store 4 6 (.t 32)⟩])
 (.seq (.reg [⟨none,.chk []⟩,
 ⟨none,.load 33 4 6 true⟩,
 ⟨none,.call (some 34) 244 [(.t 33)] true⟩,
 ⟨none,.not 35 (.t 34)⟩,
 ⟨none,.mov 36 (.t 35)⟩,
 ⟨some (36,false),.fad 37 4 3⟩,
 ⟨some (36,false),.load 38 37 1 false⟩,
 ⟨some (36,false),.fad 39 1 1⟩,
 ⟨some (36,false),.load 40 39 1 false⟩,
 ⟨some (36,false),.bin 41 .gtr (.t 38) (.t 40)⟩,
 ⟨none,.pick 42 (.t 36) (.k (.bool true)) (.t 41)⟩,
 ⟨none,.mov 43 (.t 42)⟩,
 ⟨some (43,false),.mov 44 (.t 3)⟩,
 ⟨some (43,false),.bin 45 .gtr (.t 44) (.k (.int .i64 0))⟩,
 ⟨some (43,false),.mov 46 (.t 45)⟩,
 ⟨some (46,true),.mov 49 (.t 3)⟩,
 ⟨some (46,true),.bin 50 .sub (.t 49) (.k (.int .i64 1))⟩,
 ⟨some (46,true),.fad 47 1 2⟩,
 ⟨some (46,true),.load 48 47 1 false⟩,
 ⟨some (46,true),.idx 51 16 (.t 48) (.t 50)⟩,
 ⟨some (46,true),.fad 52 51 1⟩,
 ⟨some (46,true),.load 53 52 1 false⟩,
 ⟨some (46,true),.fad 54 4 0⟩,
 ⟨some (46,true),.load 55 54 1 false⟩,
 ⟨some (46,true),.bin 56 .geq (.t 53) (.t 55)⟩,
 ⟨some (43,false),.pick 57 (.t 46) (.t 56) (.k (.bool false))⟩,
 ⟨none,.pick 58 (.t 43) (.k (.bool true)) (.t 57)⟩])
 (.cond (.t 58)
 (.seq (.reg [⟨none,.mov 2 (.k (.bool false))⟩])
 (.ret))
 (.skip)))))
 (.reg [⟨none,.bin 59 .add (.t 28) (.k (.int .i64 1))⟩,
 ⟨none,.mov 28 (.t 59)⟩])))
def r206:RF:=
 ⟨1,[.tmp 2],
 .seq (.reg [⟨none,.locb 1 (.t 0)⟩,
 ⟨none,.mov 2 (.k (.bool false))⟩])
 (.seq (.seq (.reg [⟨none,.fad 5 1 0⟩,
 ⟨none,.load 6 5 1 false⟩,
 ⟨none,.call (some 7) 7 [(.t 6)] false⟩,
 ⟨none,.not 8 (.t 7)⟩,
 ⟨none,.mov 9 (.t 8)⟩,
 ⟨some (9,false),.fad 10 1 1⟩,
 ⟨some (9,false),.load 11 10 1 false⟩,
 ⟨some (9,false),.bin 12 .lss (.t 11) (.k (.int .i64 0))⟩,
 ⟨none,.pick 13 (.t 9) (.k (.bool true)) (.t 12)⟩,
 ⟨none,.mov 14 (.t 13)⟩,
 ⟨some (14,false),.fad 15 1 1⟩,
 ⟨some (14,false),.load 16 15 1 false⟩,
 ⟨some (14,false),.bin 17 .gtr (.t 16) (.k (.int .i64 1000000))⟩,
 ⟨none,.pick 18 (.t 14) (.k (.bool true)) (.t 17)⟩,
 ⟨none,.mov 19 (.t 18)⟩,
 ⟨some (19,false),.fad 20 1 2⟩,
 ⟨some (19,false),.load 21 20 1 false⟩,
 ⟨some (19,false),.len 22 (.t 21)⟩,
 ⟨some (19,false),.bin 23 .gtr (.t 22) (.k (.int .i64 8))⟩,
 ⟨none,.pick 24 (.t 19) (.k (.bool true)) (.t 23)⟩])
 (.cond (.t 24)
 (.seq (.reg [⟨none,.mov 2 (.k (.bool false))⟩])
 (.ret))
 (.skip)))
 (.seq (.seq (.reg [⟨none,.fad 25 1 2⟩,
 ⟨none,.load 26 25 1 false⟩,
 ⟨none,.len 27 (.t 26)⟩,
 ⟨none,.mov 28 (.k (.int .i64 0))⟩])
 (.block 0 (.loop [1,26,27,28]
 r206L0)))
 (.seq (.reg [⟨none,.mov 2 (.k (.bool true))⟩])
 (.ret))))⟩
def r212:RF:=
 ⟨2,[.tmp 4],
 .seq (.reg [⟨none,.locb 2 (.t 0)⟩,
 ⟨none,.newb 3 (.t 1)⟩,
 ⟨none,.mov 4 (.k (.int .i64 0))⟩])
 (.seq (.reg [⟨none,.fad 5 2 2⟩,
 ⟨none,.load 6 5 1 false⟩,
 ⟨none,.mkf 7 247 [3]⟩,
 ⟨none,.call (some 8) 248 [(.t 6),(.t 7)] false⟩,
 ⟨none,.mov 4 (.t 8)⟩])
 (.ret))⟩
def r213:RF:=
 ⟨3,[.tmp 6],
 .seq (.reg [⟨none,.locb 3 (.t 0)⟩,
 ⟨none,.newb 4 (.t 1)⟩,
 ⟨none,.newb 5 (.t 2)⟩,
 ⟨none,.mov 6 (.k (.int .i64 0))⟩])
 (.seq (.reg [⟨none,.fad 7 3 2⟩,
 ⟨none,.load 8 7 1 false⟩,
 ⟨none,.mkf 9 249 [4,5]⟩,
 ⟨none,.call (some 10) 248 [(.t 8),(.t 9)] false⟩,
 ⟨none,.mov 6 (.t 10)⟩])
 (.ret))⟩
def r229:RF:=
 ⟨1,[.cell 2 6 true],
 .seq (.reg [⟨none,.locb 1 (.t 0)⟩,
 ⟨none,.loc 2 [.int .u64 0,.int .u64 0,.int .i64 0,.int .i64 0,.nil,.nil]⟩])
 (.seq (.reg [⟨none,.fad 3 1 4⟩,
 ⟨none,.load 4 3 1 true⟩,
 ⟨none,.call (some 5) 260 [(.t 4)] false⟩,
 ⟨none,.fad 6 1 4⟩,
 ⟨none,.store 6 1 (.t 5)⟩])
 (.seq (.reg [⟨none,.lit 7 9 0 [.int .i64 0,.int .u64 0] []⟩,
 ⟨none,.fad 8 1 5⟩,
 ⟨none,.load 9 8 1 false⟩,
 ⟨none,.app 10 9 16 (.t 7) (.t 9)⟩,
 ⟨none,.fad 11 1 5⟩,
 ⟨none,.store 11 1 (.t 10)⟩])
 (.seq (.reg [⟨none,.load 12 1 6 true⟩,
 ⟨none,.store 2 6 (.t 12)⟩])
 (.ret))))⟩
def r244L0:RC:=
 .seq (.reg [⟨none,.bin 79 .lss (.t 78) (.t 77)⟩])
 (.seq (.cond (.t 79)
 (.skip)
 (.exit 2))
 (.seq (.block 3 (.seq (.reg [⟨none,.mov 80 (.t 78)⟩,
 ⟨none,.idx 81 9 (.t 76) (.t 78)⟩,
 ⟨none,.load 82 81 2 true⟩,
 ⟨none,.loc 6 [.int .i64 0,.int .u64 0]⟩,
 ⟨none,.mov 5 (.t 80)⟩,
 ⟨none,.store 6 2 (.t 82)⟩])
 (.seq (.reg [⟨none,.chk []⟩,
 ⟨none,.fad 83 6 0⟩,
 ⟨none,.load 84 83 1 false⟩,
 ⟨none,.bin 85 .lss (.t 84) (.k (.int .i64 1))⟩,
 ⟨none,.mov 86 (.t 85)⟩,
 ⟨some (86,false),.fad 87 6 1⟩,
 ⟨some (86,false),.load 88 87 1 false⟩,
 ⟨some (86,false),.fad 89 1 0⟩,
 ⟨some (86,false),.load 90 89 1 false⟩,
 ⟨some (86,false),.bin 91 .lss (.t 88) (.t 90)⟩,
 ⟨none,.pick 92 (.t 86) (.k (.bool true)) (.t 91)⟩,
 ⟨none,.mov 93 (.t 92)⟩,
 ⟨some (93,false),.fad 94 6 1⟩,
 ⟨some (93,false),.load 95 94 1 false⟩,
 ⟨some (93,false),.fad 96 1 1⟩,
 ⟨some (93,false),.load 97 96 1 false⟩,
 ⟨some (93,false),.bin 98 .gtr (.t 95) (.t 97)⟩,
 ⟨none,.pick 99 (.t 93) (.k (.bool true)) (.t 98)⟩,
 ⟨none,.mov 100 (.t 99)⟩,
 ⟨some (100,false),.mov 101 (.t 5)⟩,
 ⟨some (100,false),.bin 102 .gtr (.t 101) (.k (.int .i64 0))⟩,
 ⟨some (100,false),.mov 103 (.t 102)⟩,
 ⟨some (103,true),.mov 106 (.t 5)⟩,
 ⟨some (103,true),.bin 107 .sub (.t 106) (.k (.int .i64 1))⟩,
 ⟨some (103,true),.fad 104 1 5⟩,
 ⟨some (103,true),.load 105 104 1 false⟩,
 ⟨some (103,true),.idx 108 9 (.t 105) (.t 107)⟩,
 ⟨some (103,true),.load 109 108 2 true⟩,
 ⟨some (103,true),.load 110 6 2 true⟩,
 ⟨some (103,true),.call (some 111) 267 [(.t 109),(.t 110)] true⟩,
 ⟨some (103,true),.bin 112 .geq (.t 111) (.k (.int .i64 0))⟩,
 ⟨some (100,false),.pick 113 (.t 103) (.t 112) (.k (.bool false))⟩,
 ⟨none,.pick 114 (.t 100) (.k (.bool true)) (.t 113)⟩])
 (.cond (.t 114)
 (.seq (.reg [⟨none,.mov 2 (.k (.bool false))⟩])
 (.ret))
 (.skip)))))
 (.reg [⟨none,.bin 115 .add (.t 78) (.k (.int .i64 1))⟩,
 ⟨none,.mov 78 (.t 115)⟩])))
def r244L1:RC:=
 .seq (.reg [⟨none,.bin 49 .lss (.t 48) (.t 47)⟩])
 (.seq (.cond (.t 49)
 (.skip)
 (.exit 0))
 (.seq (.block 1 (.seq (.reg [⟨none,.idx 50 11 (.t 46) (.t 48)⟩,
 ⟨none,.load 51 50 5 true⟩,
 ⟨none,.loc 4 [.int .u64 0,.int .u64 0,.int .u64 0,.int .u64 0,.int .i64 0]⟩,
 ⟨none,.store 4 5 (.t 51)⟩])
 (.seq (.reg [⟨none,.fad 52 4 0⟩,
 ⟨none,.load 53 52 1 false⟩,
 ⟨none,.fad 54 1 0⟩,
 ⟨none,.load 55 54 1 false⟩,
 ⟨none,.bin 56 .lss (.t 53) (.t 55)⟩,
 ⟨none,.mov 57 (.t 56)⟩,
 ⟨some (57,false),.fad 58 4 0⟩,
 ⟨some (57,false),.load 59 58 1 false⟩,
 ⟨some (57,false),.fad 60 1 1⟩,
 ⟨some (57,false),.load 61 60 1 false⟩,
 ⟨some (57,false),.bin 62 .gtr (.t 59) (.t 61)⟩,
 ⟨none,.pick 63 (.t 57) (.k (.bool true)) (.t 62)⟩,
 ⟨none,.mov 64 (.t 63)⟩,
 ⟨some (64,false),.fad 65 1 5⟩,
 ⟨some (64,false),.load 66 65 1 false⟩,
 ⟨some (64,false),.fad 67 4 4⟩,
 ⟨some (64,false),.load 68 67 1 false⟩,
 ⟨some (64,false),.fad 69 4 0⟩,
 ⟨some (64,false),.load 70 69 1 false⟩,
 ⟨some (64,false),.build 71 [.int .i64 0,.int .u64 0] [(0,1,(.t 68)),(1,1,(.t 70))]⟩,
 ⟨some (64,false),.call (some 72) 266 [(.t 66),(.t 71)] false⟩,
 ⟨none,.pick 73 (.t 64) (.k (.bool true)) (.t 72)⟩])
 (.cond (.t 73)
 (.seq (.reg [⟨none,.mov 2 (.k (.bool false))⟩])
 (.ret))
 (.skip)))))
 (.reg [⟨none,.bin 74 .add (.t 48) (.k (.int .i64 1))⟩,
 ⟨none,.mov 48 (.t 74)⟩])))
def r244:RF:=
 ⟨1,[.tmp 2],
 .seq (.reg [⟨none,.locb 1 (.t 0)⟩,
 ⟨none,.mov 2 (.k (.bool false))⟩])
 (.seq (.seq (.reg [⟨none,.fad 7 1 0⟩,
 ⟨none,.load 8 7 1 false⟩,
 ⟨none,.fad 9 1 1⟩,
 ⟨none,.load 10 9 1 false⟩,
 ⟨none,.bin 11 .gtr (.t 8) (.t 10)⟩,
 ⟨none,.mov 12 (.t 11)⟩,
 ⟨some (12,false),.fad 13 1 2⟩,
 ⟨some (12,false),.load 14 13 1 false⟩,
 ⟨some (12,false),.bin 15 .neq (.t 14) (.k (.int .i64 0))⟩,
 ⟨some (12,false),.mov 16 (.t 15)⟩,
 ⟨some (16,true),.fad 17 1 2⟩,
 ⟨some (16,true),.load 18 17 1 false⟩,
 ⟨some (16,true),.bin 19 .neq (.t 18) (.k (.int .i64 1))⟩,
 ⟨some (12,false),.pick 20 (.t 16) (.t 19) (.k (.bool false))⟩,
 ⟨none,.pick 21 (.t 12) (.k (.bool true)) (.t 20)⟩,
 ⟨none,.mov 22 (.t 21)⟩,
 ⟨some (22,false),.fad 23 1 3⟩,
 ⟨some (22,false),.load 24 23 1 false⟩,
 ⟨some (22,false),.bin 25 .lss (.t 24) (.k (.int .i64 1))⟩,
 ⟨none,.pick 26 (.t 22) (.k (.bool true)) (.t 25)⟩,
 ⟨none,.mov 27 (.t 26)⟩,
 ⟨some (27,false),.fad 28 1 3⟩,
 ⟨some (27,false),.load 29 28 1 false⟩,
 ⟨some (27,false),.bin 30 .gtr (.t 29) (.k (.int .i64 1000000))⟩,
 ⟨none,.pick 31 (.t 27) (.k (.bool true)) (.t 30)⟩,
 ⟨none,.mov 32 (.t 31)⟩,
 ⟨some (32,false),.fad 33 1 4⟩,
 ⟨some (32,false),.load 34 33 1 true⟩,
 ⟨some (32,false),.call (some 35) 265 [(.t 34)] false⟩,
 ⟨some (32,false),.not 36 (.t 35)⟩,
 ⟨none,.pick 37 (.t 32) (.k (.bool true)) (.t 36)⟩,
 ⟨none,.mov 38 (.t 37)⟩,
 ⟨some (38,false),.fad 39 1 5⟩,
 ⟨some (38,false),.load 40 39 1 false⟩,
 ⟨some (38,false),.len 41 (.t 40)⟩,
 ⟨some (38,false),.bin 42 .gtr (.t 41) (.k (.int .i64 60))⟩,
 ⟨none,.pick 43 (.t 38) (.k (.bool true)) (.t 42)⟩])
 (.cond (.t 43)
 (.seq (.reg [⟨none,.mov 2 (.k (.bool false))⟩])
 (.ret))
 (.skip)))
 (.seq (.seq (.reg [⟨none,.fad 44 1 4⟩,
 ⟨none,.fad 45 44 0⟩,
 ⟨none,.load 46 45 1 false⟩,
 ⟨none,.len 47 (.t 46)⟩,
 ⟨none,.mov 48 (.k (.int .i64 0))⟩])
 (.block 0 (.loop [1,46,47,48]
 r244L1)))
 (.seq (.seq (.reg [⟨none,.fad 75 1 5⟩,
 ⟨none,.load 76 75 1 false⟩,
 ⟨none,.len 77 (.t 76)⟩,
 ⟨none,.mov 78 (.k (.int .i64 0))⟩])
 (.block 2 (.loop [1,76,77,78]
 r244L0)))
 (.seq (.reg [⟨none,.mov 2 (.k (.bool true))⟩])
 (.ret)))))⟩
def r247:RF:=
 ⟨2,[.tmp 3],
 .seq (.reg [⟨none,.locb 2 (.t 0)⟩,
 ⟨none,.mov 3 (.k (.bool false))⟩])
 (.seq (.reg [⟨none,.fad 4 2 0⟩,
 ⟨none,.load 5 4 1 false⟩,
 ⟨none,.load 6 1 1 false⟩,
 ⟨none,.bin 7 .leq (.t 5) (.t 6)⟩,
 ⟨none,.mov 8 (.t 7)⟩,
 ⟨some (8,true),.load 9 1 1 false⟩,
 ⟨some (8,true),.fad 10 2 1⟩,
 ⟨some (8,true),.load 11 10 1 false⟩,
 ⟨some (8,true),.bin 12 .leq (.t 9) (.t 11)⟩,
 ⟨none,.pick 13 (.t 8) (.t 12) (.k (.bool false))⟩,
 ⟨none,.mov 3 (.t 13)⟩])
 (.ret))⟩
def r249:RF:=
 ⟨3,[.tmp 4],
 .seq (.reg [⟨none,.locb 3 (.t 0)⟩,
 ⟨none,.mov 4 (.k (.bool false))⟩])
 (.seq (.reg [⟨none,.fad 5 3 0⟩,
 ⟨none,.load 6 5 1 false⟩,
 ⟨none,.load 7 1 1 false⟩,
 ⟨none,.bin 8 .eql (.t 6) (.t 7)⟩,
 ⟨none,.mov 9 (.t 8)⟩,
 ⟨some (9,true),.fad 10 3 2⟩,
 ⟨some (9,true),.load 11 10 1 false⟩,
 ⟨some (9,true),.load 12 2 1 false⟩,
 ⟨some (9,true),.bin 13 .eql (.t 11) (.t 12)⟩,
 ⟨none,.pick 14 (.t 9) (.t 13) (.k (.bool false))⟩,
 ⟨none,.mov 4 (.t 14)⟩])
 (.ret))⟩
def r267:RF:=
 ⟨2,[.tmp 4],
 .seq (.reg [⟨none,.locb 2 (.t 0)⟩,
 ⟨none,.locb 3 (.t 1)⟩,
 ⟨none,.mov 4 (.k (.int .i64 0))⟩])
 (.seq (.reg [⟨none,.chk []⟩,
 ⟨none,.fad 5 2 0⟩,
 ⟨none,.load 6 5 1 false⟩,
 ⟨none,.fad 7 3 0⟩,
 ⟨none,.load 8 7 1 false⟩,
 ⟨none,.fad 10 2 1⟩,
 ⟨none,.load 11 10 1 false⟩,
 ⟨none,.fad 12 3 1⟩,
 ⟨none,.load 13 12 1 false⟩,
 ⟨none,.call (some 9) 273 [(.t 6),(.t 8)] true⟩,
 ⟨none,.call (some 14) 274 [(.t 11),(.t 13)] true⟩,
 ⟨none,.lit 15 15 2 [.int .i64 0] [(0,(.t 9)),(1,(.t 14))]⟩,
 ⟨none,.call (some 16) 275 [(.t 15)] true⟩,
 ⟨none,.mov 4 (.t 16)⟩])
 (.ret))⟩
def r298:RF:=
 ⟨3,[.cell 6 3 true,.tmp 7],
 .seq (.reg [⟨none,.locb 3 (.t 0)⟩,
 ⟨none,.loc 6 [.int .i64 0,.int .i64 0,.nil]⟩,
 ⟨none,.mov 7 (.k (.bool false))⟩])
 (.seq (.reg [⟨none,.load 10 3 3 true⟩,
 ⟨none,.call (some 11) 320 [(.t 10)] false⟩,
 ⟨none,.loc 8 [.int .i64 0,.int .i64 0,.nil]⟩,
 ⟨none,.store 8 3 (.t 11)⟩])
 (.seq (.reg [⟨none,.load 12 3 3 true⟩,
 ⟨none,.mov 13 (.t 1)⟩,
 ⟨none,.call (some 14) 213 [(.t 12),(.t 13),(.k (.int .i64 1))] false⟩,
 ⟨none,.mov 9 (.t 14)⟩])
 (.seq (.seq (.reg [⟨none,.load 15 3 3 true⟩,
 ⟨none,.call (some 16) 206 [(.t 15)] false⟩,
 ⟨none,.not 17 (.t 16)⟩,
 ⟨none,.mov 18 (.t 17)⟩,
 ⟨some (18,false),.mov 19 (.t 9)⟩,
 ⟨some (18,false),.bin 20 .lss (.t 19) (.k (.int .i64 0))⟩,
 ⟨none,.pick 21 (.t 18) (.k (.bool true)) (.t 20)⟩,
 ⟨none,.mov 22 (.t 21)⟩,
 ⟨some (22,false),.fad 23 3 2⟩,
 ⟨some (22,false),.load 24 23 1 false⟩,
 ⟨some (22,false),.mov 25 (.t 9)⟩,
 ⟨some (22,false),.idx 26 16 (.t 24) (.t 25)⟩,
 ⟨some (22,false),.fad 27 26 3⟩,
 ⟨some (22,false),.load 28 27 1 false⟩,
 ⟨some (22,false),.mov 29 (.t 2)⟩,
 ⟨some (22,false),.bin 30 .neq (.t 28) (.t 29)⟩,
 ⟨none,.pick 31 (.t 22) (.k (.bool true)) (.t 30)⟩])
 (.cond (.t 31)
 (.seq (.reg [⟨none,.load 32 8 3 true⟩,
 ⟨none,.store 6 3 (.t 32)⟩,
 ⟨none,.mov 7 (.k (.bool false))⟩])
 (.ret))
 (.skip)))
 (.seq (.reg [⟨none,.fad 33 8 2⟩,
 ⟨none,.load 34 33 1 false⟩,
 ⟨none,.mov 35 (.t 9)⟩,
 ⟨none,.mov 36 (.t 9)⟩,
 ⟨none,.bin 37 .add (.t 36) (.k (.int .i64 1))⟩,
 ⟨none,.call (some 38) 330 [(.t 34),(.t 35),(.t 37)] false⟩,
 ⟨none,.fad 39 8 2⟩,
 ⟨none,.store 39 1 (.t 38)⟩])
 (.seq (.reg [⟨none,.load 40 8 3 true⟩,
 ⟨none,.store 6 3 (.t 40)⟩,
 ⟨none,.mov 7 (.k (.bool true))⟩])
 (.ret))))))⟩
def r301:RF:=
 ⟨3,[.cell 6 3 true,.tmp 7],
 .seq (.reg [⟨none,.locb 3 (.t 0)⟩,
 ⟨none,.loc 6 [.int .i64 0,.int .i64 0,.nil]⟩,
 ⟨none,.mov 7 (.k (.bool false))⟩])
 (.seq (.reg [⟨none,.load 10 3 3 true⟩,
 ⟨none,.call (some 11) 320 [(.t 10)] false⟩,
 ⟨none,.loc 8 [.int .i64 0,.int .i64 0,.nil]⟩,
 ⟨none,.store 8 3 (.t 11)⟩])
 (.seq (.reg [⟨none,.load 12 3 3 true⟩,
 ⟨none,.mov 13 (.t 1)⟩,
 ⟨none,.call (some 14) 213 [(.t 12),(.t 13),(.k (.int .i64 0))] false⟩,
 ⟨none,.mov 9 (.t 14)⟩])
 (.seq (.seq (.reg [⟨none,.load 15 3 3 true⟩,
 ⟨none,.mov 16 (.t 2)⟩,
 ⟨none,.call (some 17) 319 [(.t 15),(.t 16)] false⟩,
 ⟨none,.not 18 (.t 17)⟩,
 ⟨none,.mov 19 (.t 18)⟩,
 ⟨some (19,false),.mov 20 (.t 9)⟩,
 ⟨some (19,false),.bin 21 .lss (.t 20) (.k (.int .i64 0))⟩,
 ⟨none,.pick 22 (.t 19) (.k (.bool true)) (.t 21)⟩])
 (.cond (.t 22)
 (.seq (.reg [⟨none,.load 23 8 3 true⟩,
 ⟨none,.store 6 3 (.t 23)⟩,
 ⟨none,.mov 7 (.k (.bool false))⟩])
 (.ret))
 (.skip)))
 (.seq (.reg [⟨none,.fad 24 8 2⟩,
 ⟨none,.load 25 24 1 false⟩,
 ⟨none,.mov 26 (.t 9)⟩,
 ⟨none,.idx 27 16 (.t 25) (.t 26)⟩,
 ⟨none,.fad 28 27 2⟩,
 ⟨none,.store 28 1 (.k (.int .i64 1))⟩])
 (.seq (.reg [⟨none,.fad 29 8 2⟩,
 ⟨none,.load 30 29 1 false⟩,
 ⟨none,.mov 31 (.t 9)⟩,
 ⟨none,.mov 32 (.t 2)⟩,
 ⟨none,.idx 33 16 (.t 30) (.t 31)⟩,
 ⟨none,.fad 34 33 3⟩,
 ⟨none,.store 34 1 (.t 32)⟩])
 (.seq (.reg [⟨none,.load 35 8 3 true⟩,
 ⟨none,.mov 36 (.t 2)⟩,
 ⟨none,.call (some 37) 321 [(.t 35),(.t 36)] false⟩,
 ⟨none,.store 6 3 (.t 37)⟩,
 ⟨none,.mov 7 (.k (.bool true))⟩])
 (.ret)))))))⟩
def r309L0:RC:=
 .seq (.reg [⟨none,.bin 45 .lss (.t 44) (.t 43)⟩])
 (.seq (.cond (.t 45)
 (.skip)
 (.exit 0))
 (.seq (.block 1 (.seq (.reg [⟨none,.idx 46 16 (.t 42) (.t 44)⟩,
 ⟨none,.load 47 46 6 true⟩,
 ⟨none,.loc 11 [.int .u64 0,.int .u64 0,.int .i64 0,.int .i64 0,.nil,.nil]⟩,
 ⟨none,.store 11 6 (.t 47)⟩])
 (.seq (.seq (.reg [⟨none,.fad 48 11 0⟩,
 ⟨none,.load 49 48 1 false⟩,
 ⟨none,.fad 50 4 1⟩,
 ⟨none,.load 51 50 1 false⟩,
 ⟨none,.bin 52 .leq (.t 49) (.t 51)⟩,
 ⟨none,.mov 53 (.t 52)⟩,
 ⟨some (53,true),.fad 54 4 0⟩,
 ⟨some (53,true),.load 55 54 1 false⟩,
 ⟨some (53,true),.fad 56 11 1⟩,
 ⟨some (53,true),.load 57 56 1 false⟩,
 ⟨some (53,true),.bin 58 .leq (.t 55) (.t 57)⟩,
 ⟨none,.pick 59 (.t 53) (.t 58) (.k (.bool false))⟩])
 (.cond (.t 59)
 (.seq (.reg [⟨none,.load 60 8 3 true⟩,
 ⟨none,.store 6 3 (.t 60)⟩,
 ⟨none,.mov 7 (.k (.bool false))⟩])
 (.ret))
 (.skip)))
 (.seq (.reg [⟨none,.fad 61 11 0⟩,
 ⟨none,.load 62 61 1 false⟩,
 ⟨none,.fad 63 4 0⟩,
 ⟨none,.load 64 63 1 false⟩,
 ⟨none,.bin 65 .lss (.t 62) (.t 64)⟩])
 (.cond (.t 65)
 (.reg [⟨none,.mov 66 (.t 9)⟩,
 ⟨none,.bin 67 .add (.t 66) (.k (.int .i64 1))⟩,
 ⟨none,.mov 9 (.t 67)⟩])
 (.skip))))))
 (.reg [⟨none,.bin 68 .add (.t 44) (.k (.int .i64 1))⟩,
 ⟨none,.mov 44 (.t 68)⟩])))
def r309:RF:=
 ⟨3,[.cell 6 3 true,.tmp 7],
 .seq (.reg [⟨none,.locb 3 (.t 0)⟩,
 ⟨none,.locb 4 (.t 1)⟩,
 ⟨none,.loc 6 [.int .i64 0,.int .i64 0,.nil]⟩,
 ⟨none,.mov 7 (.k (.bool false))⟩])
 (.seq (.reg [⟨none,.load 12 3 3 true⟩,
 ⟨none,.call (some 13) 320 [(.t 12)] false⟩,
 ⟨none,.loc 8 [.int .i64 0,.int .i64 0,.nil]⟩,
 ⟨none,.store 8 3 (.t 13)⟩])
 (.seq (.seq (.reg [⟨none,.load 14 3 3 true⟩,
 ⟨none,.mov 15 (.t 2)⟩,
 ⟨none,.call (some 16) 319 [(.t 14),(.t 15)] false⟩,
 ⟨none,.not 17 (.t 16)⟩,
 ⟨none,.mov 18 (.t 17)⟩,
 ⟨some (18,false),.load 19 4 6 true⟩,
 ⟨some (18,false),.call (some 20) 244 [(.t 19)] false⟩,
 ⟨some (18,false),.not 21 (.t 20)⟩,
 ⟨none,.pick 22 (.t 18) (.k (.bool true)) (.t 21)⟩,
 ⟨none,.mov 23 (.t 22)⟩,
 ⟨some (23,false),.fad 24 4 2⟩,
 ⟨some (23,false),.load 25 24 1 false⟩,
 ⟨some (23,false),.bin 26 .neq (.t 25) (.k (.int .i64 1))⟩,
 ⟨none,.pick 27 (.t 23) (.k (.bool true)) (.t 26)⟩,
 ⟨none,.mov 28 (.t 27)⟩,
 ⟨some (28,false),.mov 29 (.t 2)⟩,
 ⟨some (28,false),.fad 30 4 3⟩,
 ⟨some (28,false),.load 31 30 1 false⟩,
 ⟨some (28,false),.bin 32 .leq (.t 29) (.t 31)⟩,
 ⟨none,.pick 33 (.t 28) (.k (.bool true)) (.t 32)⟩,
 ⟨none,.mov 34 (.t 33)⟩,
 ⟨some (34,false),.fad 35 3 2⟩,
 ⟨some (34,false),.load 36 35 1 false⟩,
 ⟨some (34,false),.len 37 (.t 36)⟩,
 ⟨some (34,false),.bin 38 .eql (.t 37) (.k (.int .i64 8))⟩,
 ⟨none,.pick 39 (.t 34) (.k (.bool true)) (.t 38)⟩])
 (.cond (.t 39)
 (.seq (.reg [⟨none,.load 40 8 3 true⟩,
 ⟨none,.store 6 3 (.t 40)⟩,
 ⟨none,.mov 7 (.k (.bool false))⟩])
 (.ret))
 (.skip)))
 (.seq (.reg [⟨none,.mov 9 (.k (.int .i64 0))⟩])
 (.seq (.seq (.reg [⟨none,.fad 41 3 2⟩,
 ⟨none,.load 42 41 1 false⟩,
 ⟨none,.len 43 (.t 42)⟩,
 ⟨none,.mov 44 (.k (.int .i64 0))⟩])
 (.block 0 (.loop [2,4,6,8,9,42,43,44]
 r309L0)))
 (.seq (.reg [⟨none,.load 69 4 6 true⟩,
 ⟨none,.call (some 70) 229 [(.t 69)] false⟩,
 ⟨none,.store 4 6 (.t 70)⟩])
 (.seq (.reg [⟨none,.fad 71 4 2⟩,
 ⟨none,.store 71 1 (.k (.int .i64 0))⟩])
 (.seq (.reg [⟨none,.fad 72 8 2⟩,
 ⟨none,.load 73 72 1 false⟩,
 ⟨none,.mov 74 (.t 9)⟩,
 ⟨none,.load 75 4 6 true⟩,
 ⟨none,.lit 76 16 1 [.int .u64 0,.int .u64 0,.int .i64 0,.int .i64 0,.nil,.nil] [(0,(.t 75))]⟩,
 ⟨none,.call (some 77) 332 [(.t 73),(.t 74),(.t 76)] false⟩,
 ⟨none,.fad 78 8 2⟩,
 ⟨none,.store 78 1 (.t 77)⟩])
 (.seq (.reg [⟨none,.load 79 8 3 true⟩,
 ⟨none,.mov 80 (.t 2)⟩,
 ⟨none,.call (some 81) 321 [(.t 79),(.t 80)] false⟩,
 ⟨none,.store 6 3 (.t 81)⟩,
 ⟨none,.mov 7 (.k (.bool true))⟩])
 (.ret)))))))))⟩
def r319:RF:=
 ⟨2,[.tmp 4],
 .seq (.reg [⟨none,.locb 2 (.t 0)⟩,
 ⟨none,.mov 4 (.k (.bool false))⟩])
 (.seq (.reg [⟨none,.load 5 2 3 true⟩,
 ⟨none,.call (some 6) 206 [(.t 5)] false⟩,
 ⟨none,.mov 7 (.t 6)⟩,
 ⟨some (7,true),.mov 8 (.t 1)⟩,
 ⟨some (7,true),.fad 9 2 1⟩,
 ⟨some (7,true),.load 10 9 1 false⟩,
 ⟨some (7,true),.bin 11 .gtr (.t 8) (.t 10)⟩,
 ⟨none,.pick 12 (.t 7) (.t 11) (.k (.bool false))⟩,
 ⟨none,.mov 13 (.t 12)⟩,
 ⟨some (13,true),.mov 14 (.t 1)⟩,
 ⟨some (13,true),.bin 15 .leq (.t 14) (.k (.int .i64 1000000))⟩,
 ⟨none,.pick 16 (.t 13) (.t 15) (.k (.bool false))⟩,
 ⟨none,.mov 4 (.t 16)⟩])
 (.ret))⟩
def r320L0:RC:=
 .seq (.reg [⟨none,.bin 15 .lss (.t 14) (.t 13)⟩])
 (.seq (.cond (.t 15)
 (.skip)
 (.exit 0))
 (.seq (.block 1 (.seq (.reg [⟨none,.idx 16 16 (.t 12) (.t 14)⟩,
 ⟨none,.load 17 16 6 true⟩,
 ⟨none,.loc 5 [.int .u64 0,.int .u64 0,.int .i64 0,.int .i64 0,.nil,.nil]⟩,
 ⟨none,.store 5 6 (.t 17)⟩])
 (.reg [⟨none,.chk []⟩,
 ⟨none,.fad 18 3 2⟩,
 ⟨none,.load 19 18 1 false⟩,
 ⟨none,.load 20 5 6 true⟩,
 ⟨none,.call (some 21) 229 [(.t 20)] true⟩,
 ⟨none,.lit 22 16 1 [.int .u64 0,.int .u64 0,.int .i64 0,.int .i64 0,.nil,.nil] [(0,(.t 21))]⟩,
 ⟨none,.app 23 16 80 (.t 19) (.t 22)⟩,
 ⟨none,.fad 24 3 2⟩,
 ⟨none,.store 24 1 (.t 23)⟩])))
 (.reg [⟨none,.bin 25 .add (.t 14) (.k (.int .i64 1))⟩,
 ⟨none,.mov 14 (.t 25)⟩])))
def r320:RF:=
 ⟨1,[.cell 2 3 true],
 .seq (.reg [⟨none,.locb 1 (.t 0)⟩,
 ⟨none,.loc 2 [.int .i64 0,.int .i64 0,.nil]⟩])
 (.seq (.reg [⟨none,.fad 6 1 0⟩,
 ⟨none,.load 7 6 1 false⟩,
 ⟨none,.fad 8 1 1⟩,
 ⟨none,.load 9 8 1 false⟩,
 ⟨none,.build 10 [.int .i64 0,.int .i64 0,.nil] [(0,1,(.t 7)),(1,1,(.t 9))]⟩,
 ⟨none,.loc 3 [.int .i64 0,.int .i64 0,.nil]⟩,
 ⟨none,.store 3 3 (.t 10)⟩])
 (.seq (.seq (.reg [⟨none,.fad 11 1 2⟩,
 ⟨none,.load 12 11 1 false⟩,
 ⟨none,.len 13 (.t 12)⟩,
 ⟨none,.mov 14 (.k (.int .i64 0))⟩])
 (.block 0 (.loop [2,3,12,13,14]
 r320L0)))
 (.seq (.reg [⟨none,.load 26 3 3 true⟩,
 ⟨none,.store 2 3 (.t 26)⟩])
 (.ret))))⟩
def r321L0:RC:=
 .seq (.reg [⟨none,.bin 12 .lss (.t 11) (.t 10)⟩])
 (.seq (.cond (.t 12)
 (.skip)
 (.exit 0))
 (.seq (.block 1 (.seq (.reg [⟨none,.mov 13 (.t 11)⟩,
 ⟨none,.mov 5 (.t 13)⟩])
 (.seq (.reg [⟨none,.fad 14 2 2⟩,
 ⟨none,.load 15 14 1 false⟩,
 ⟨none,.mov 16 (.t 5)⟩,
 ⟨none,.idx 17 16 (.t 15) (.t 16)⟩,
 ⟨none,.fad 18 17 2⟩,
 ⟨none,.load 19 18 1 false⟩,
 ⟨none,.bin 20 .eql (.t 19) (.k (.int .i64 0))⟩])
 (.cond (.t 20)
 (.reg [⟨none,.fad 21 2 2⟩,
 ⟨none,.load 22 21 1 false⟩,
 ⟨none,.mov 23 (.t 5)⟩,
 ⟨none,.mov 24 (.t 1)⟩,
 ⟨none,.idx 25 16 (.t 22) (.t 23)⟩,
 ⟨none,.fad 26 25 3⟩,
 ⟨none,.store 26 1 (.t 24)⟩])
 (.skip)))))
 (.reg [⟨none,.bin 27 .add (.t 11) (.k (.int .i64 1))⟩,
 ⟨none,.mov 11 (.t 27)⟩])))
def r321:RF:=
 ⟨2,[.cell 4 3 true],
 .seq (.reg [⟨none,.locb 2 (.t 0)⟩,
 ⟨none,.loc 4 [.int .i64 0,.int .i64 0,.nil]⟩])
 (.seq (.reg [⟨none,.mov 6 (.t 1)⟩,
 ⟨none,.fad 7 2 1⟩,
 ⟨none,.store 7 1 (.t 6)⟩])
 (.seq (.seq (.reg [⟨none,.fad 8 2 2⟩,
 ⟨none,.load 9 8 1 false⟩,
 ⟨none,.len 10 (.t 9)⟩,
 ⟨none,.mov 11 (.k (.int .i64 0))⟩])
 (.block 0 (.loop [1,2,4,10,11]
 r321L0)))
 (.seq (.reg [⟨none,.load 28 2 3 true⟩,
 ⟨none,.store 4 3 (.t 28)⟩])
 (.ret))))⟩
def tI13:List (Nat×RF):=[(157,r157),(190,r190),(206,r206),(212,r212),(213,r213),(229,r229),(244,r244),(247,r247),(249,r249),(267,r267),(298,r298),(301,r301),(309,r309),(319,r319),(320,r320),(321,r321)]
def r4:RF:=
 ⟨1,[.tmp 2],
 .seq (.reg [⟨none,.locb 1 (.t 0)⟩,
 ⟨none,.mov 2 (.k (.bool false))⟩])
 (.seq (.reg [⟨none,.load 3 1 5 true⟩,
 ⟨none,.call (some 4) 6 [(.t 3)] false⟩,
 ⟨none,.mov 2 (.t 4)⟩])
 (.ret))⟩
def r6:RF:=
 ⟨1,[.tmp 2],
 .seq (.reg [⟨none,.locb 1 (.t 0)⟩,
 ⟨none,.mov 2 (.k (.bool false))⟩])
 (.seq (.reg [⟨none,.fad 3 1 1⟩,
 ⟨none,.load 4 3 1 false⟩,
 ⟨none,.call (some 5) 7 [(.t 4)] false⟩,
 ⟨none,.mov 6 (.t 5)⟩,
 ⟨some (6,true),.fad 7 1 2⟩,
 ⟨some (6,true),.load 8 7 1 false⟩,
 ⟨some (6,true),.call (some 9) 7 [(.t 8)] false⟩,
 ⟨none,.pick 10 (.t 6) (.t 9) (.k (.bool false))⟩,
 ⟨none,.mov 11 (.t 10)⟩,
 ⟨some (11,true),.fad 12 1 1⟩,
 ⟨some (11,true),.load 13 12 1 false⟩,
 ⟨some (11,true),.fad 14 1 2⟩,
 ⟨some (11,true),.load 15 14 1 false⟩,
 ⟨some (11,true),.bin 16 .neq (.t 13) (.t 15)⟩,
 ⟨none,.pick 17 (.t 11) (.t 16) (.k (.bool false))⟩,
 ⟨none,.mov 18 (.t 17)⟩,
 ⟨some (18,true),.fad 19 1 3⟩,
 ⟨some (18,true),.load 20 19 1 false⟩,
 ⟨some (18,true),.bin 21 .geq (.t 20) (.k (.int .i64 1))⟩,
 ⟨none,.pick 22 (.t 18) (.t 21) (.k (.bool false))⟩,
 ⟨none,.mov 23 (.t 22)⟩,
 ⟨some (23,true),.fad 24 1 3⟩,
 ⟨some (23,true),.load 25 24 1 false⟩,
 ⟨some (23,true),.bin 26 .lss (.t 25) (.k (.int .i64 1000000))⟩,
 ⟨none,.pick 27 (.t 23) (.t 26) (.k (.bool false))⟩,
 ⟨none,.mov 28 (.t 27)⟩,
 ⟨some (28,true),.fad 29 1 4⟩,
 ⟨some (28,true),.load 30 29 1 false⟩,
 ⟨some (28,true),.bin 31 .geq (.t 30) (.k (.int .i64 0))⟩,
 ⟨none,.pick 32 (.t 28) (.t 31) (.k (.bool false))⟩,
 ⟨none,.mov 33 (.t 32)⟩,
 ⟨some (33,true),.fad 34 1 4⟩,
 ⟨some (33,true),.load 35 34 1 false⟩,
 ⟨some (33,true),.bin 36 .leq (.t 35) (.k (.int .i64 3))⟩,
 ⟨none,.pick 37 (.t 33) (.t 36) (.k (.bool false))⟩,
 ⟨none,.mov 2 (.t 37)⟩])
 (.ret))⟩
def r113:RF:=
 ⟨2,[.cell 4 5 true,.tmp 5],
 .seq (.reg [⟨none,.locb 2 (.t 0)⟩,
 ⟨none,.locb 3 (.t 1)⟩,
 ⟨none,.loc 4 [.int .u64 0,.int .i64 0,.int .i64 0,.int .i64 0,.int .i64 0]⟩,
 ⟨none,.mov 5 (.k (.bool false))⟩])
 (.seq (.seq (.reg [⟨none,.chk []⟩,
 ⟨none,.load 6 2 5 true⟩,
 ⟨none,.call (some 7) 6 [(.t 6)] true⟩,
 ⟨none,.not 8 (.t 7)⟩,
 ⟨none,.mov 9 (.t 8)⟩,
 ⟨some (9,false),.fad 10 2 4⟩,
 ⟨some (9,false),.load 11 10 1 false⟩,
 ⟨some (9,false),.bin 12 .eql (.t 11) (.k (.int .i64 3))⟩,
 ⟨none,.pick 13 (.t 9) (.k (.bool true)) (.t 12)⟩,
 ⟨none,.mov 14 (.t 13)⟩,
 ⟨some (14,false),.fad 15 3 0⟩,
 ⟨some (14,false),.load 16 15 1 false⟩,
 ⟨some (14,false),.fad 17 2 4⟩,
 ⟨some (14,false),.load 18 17 1 false⟩,
 ⟨some (14,false),.bin 19 .neq (.t 16) (.t 18)⟩,
 ⟨none,.pick 20 (.t 14) (.k (.bool true)) (.t 19)⟩,
 ⟨none,.mov 21 (.t 20)⟩,
 ⟨some (21,false),.fad 22 3 1⟩,
 ⟨some (21,false),.load 23 22 1 false⟩,
 ⟨some (21,false),.fad 24 2 0⟩,
 ⟨some (21,false),.load 25 24 1 false⟩,
 ⟨some (21,false),.bin 26 .neq (.t 23) (.t 25)⟩,
 ⟨none,.pick 27 (.t 21) (.k (.bool true)) (.t 26)⟩,
 ⟨none,.mov 28 (.t 27)⟩,
 ⟨some (28,false),.fad 29 3 3⟩,
 ⟨some (28,false),.load 30 29 1 false⟩,
 ⟨some (28,false),.load 31 2 5 true⟩,
 ⟨some (28,false),.call (some 32) 132 [(.t 31)] true⟩,
 ⟨some (28,false),.bin 33 .neq (.t 30) (.t 32)⟩,
 ⟨none,.pick 34 (.t 28) (.k (.bool true)) (.t 33)⟩])
 (.cond (.t 34)
 (.seq (.reg [⟨none,.load 35 2 5 true⟩,
 ⟨none,.store 4 5 (.t 35)⟩,
 ⟨none,.mov 5 (.k (.bool false))⟩])
 (.ret))
 (.skip)))
 (.seq (.reg [⟨none,.fad 36 2 4⟩,
 ⟨none,.load 37 36 1 false⟩,
 ⟨none,.bin 38 .add (.t 37) (.k (.int .i64 1))⟩,
 ⟨none,.fad 39 2 4⟩,
 ⟨none,.store 39 1 (.t 38)⟩])
 (.seq (.reg [⟨none,.load 40 2 5 true⟩,
 ⟨none,.store 4 5 (.t 40)⟩,
 ⟨none,.mov 5 (.k (.bool true))⟩])
 (.ret))))⟩
def r132:RF:=
 ⟨1,[.tmp 2],
 .seq (.reg [⟨none,.locb 1 (.t 0)⟩,
 ⟨none,.mov 2 (.k (.int .i64 0))⟩])
 (.seq (.seq (.reg [⟨none,.fad 3 1 4⟩,
 ⟨none,.load 4 3 1 false⟩,
 ⟨none,.bin 5 .eql (.t 4) (.k (.int .i64 1))⟩])
 (.cond (.t 5)
 (.seq (.reg [⟨none,.fad 6 1 3⟩,
 ⟨none,.load 7 6 1 false⟩,
 ⟨none,.bin 8 .add (.t 7) (.k (.int .i64 1))⟩,
 ⟨none,.mov 2 (.t 8)⟩])
 (.ret))
 (.skip)))
 (.seq (.reg [⟨none,.fad 9 1 3⟩,
 ⟨none,.load 10 9 1 false⟩,
 ⟨none,.mov 2 (.t 10)⟩])
 (.ret)))⟩
def r167:RF:=
 ⟨2,[.tmp 4],
 .seq (.reg [⟨none,.locb 2 (.t 0)⟩,
 ⟨none,.locb 3 (.t 1)⟩,
 ⟨none,.mov 4 (.k (.bool false))⟩])
 (.seq (.seq (.reg [⟨none,.load 7 2 3 true⟩,
 ⟨none,.call (some 8) 206 [(.t 7)] false⟩,
 ⟨none,.not 9 (.t 8)⟩,
 ⟨none,.mov 10 (.t 9)⟩,
 ⟨some (10,false),.fad 11 3 2⟩,
 ⟨some (10,false),.load 12 11 1 false⟩,
 ⟨some (10,false),.fad 13 2 0⟩,
 ⟨some (10,false),.load 14 13 1 false⟩,
 ⟨some (10,false),.bin 15 .neq (.t 12) (.t 14)⟩,
 ⟨none,.pick 16 (.t 10) (.k (.bool true)) (.t 15)⟩])
 (.cond (.t 16)
 (.seq (.reg [⟨none,.mov 4 (.k (.bool false))⟩])
 (.ret))
 (.skip)))
 (.seq (.reg [⟨none,.mov 5 (.k (.int .i64 1))⟩])
 (.seq (.seq (.reg [⟨none,.fad 17 3 0⟩,
 ⟨none,.load 18 17 1 false⟩])
 (.block 0 (.seq (.reg [⟨none,.bin 20 .eql (.t 18) (.k (.int .i64 1))⟩,
 ⟨none,.mov 19 (.t 20)⟩])
 (.cond (.t 19)
 (.reg [⟨none,.mov 5 (.k (.int .i64 0))⟩])
 (.seq (.reg [⟨none,.bin 22 .eql (.t 18) (.k (.int .i64 2))⟩,
 ⟨none,.mov 21 (.t 22)⟩])
 (.cond (.t 21)
 (.seq (.reg [⟨none,.load 23 2 3 true⟩,
 ⟨none,.fad 24 3 1⟩,
 ⟨none,.load 25 24 1 false⟩,
 ⟨none,.call (some 26) 212 [(.t 23),(.t 25)] false⟩,
 ⟨none,.bin 27 .lss (.t 26) (.k (.int .i64 0))⟩,
 ⟨none,.mov 28 (.t 27)⟩,
 ⟨some (28,true),.fad 29 2 1⟩,
 ⟨some (28,true),.load 30 29 1 false⟩,
 ⟨some (28,true),.fad 31 3 3⟩,
 ⟨some (28,true),.load 32 31 1 false⟩,
 ⟨some (28,true),.bin 33 .geq (.t 30) (.t 32)⟩,
 ⟨none,.pick 34 (.t 28) (.t 33) (.k (.bool false))⟩,
 ⟨none,.mov 4 (.t 34)⟩])
 (.ret))
 (.seq (.reg [⟨none,.bin 36 .eql (.t 18) (.k (.int .i64 0))⟩,
 ⟨none,.mov 35 (.t 36)⟩])
 (.cond (.t 35)
 (.skip)
 (.seq (.reg [⟨none,.mov 4 (.k (.bool false))⟩])
 (.ret))))))))))
 (.seq (.reg [⟨none,.load 37 2 3 true⟩,
 ⟨none,.fad 38 3 1⟩,
 ⟨none,.load 39 38 1 false⟩,
 ⟨none,.mov 40 (.t 5)⟩,
 ⟨none,.call (some 41) 213 [(.t 37),(.t 39),(.t 40)] false⟩,
 ⟨none,.mov 6 (.t 41)⟩])
 (.seq (.reg [⟨none,.chk []⟩,
 ⟨none,.mov 42 (.t 6)⟩,
 ⟨none,.bin 43 .geq (.t 42) (.k (.int .i64 0))⟩,
 ⟨none,.mov 44 (.t 43)⟩,
 ⟨some (44,true),.mov 47 (.t 6)⟩,
 ⟨some (44,true),.fad 45 2 2⟩,
 ⟨some (44,true),.load 46 45 1 false⟩,
 ⟨some (44,true),.idx 48 16 (.t 46) (.t 47)⟩,
 ⟨some (44,true),.fad 49 48 3⟩,
 ⟨some (44,true),.load 50 49 1 false⟩,
 ⟨some (44,true),.fad 51 3 3⟩,
 ⟨some (44,true),.load 52 51 1 false⟩,
 ⟨some (44,true),.bin 53 .eql (.t 50) (.t 52)⟩,
 ⟨none,.pick 54 (.t 44) (.t 53) (.k (.bool false))⟩,
 ⟨none,.mov 4 (.t 54)⟩])
 (.ret))))))⟩
def r172L0:RC:=
 .seq (.reg [⟨none,.bin 33 .lss (.t 32) (.t 31)⟩])
 (.seq (.cond (.t 33)
 (.skip)
 (.exit 2))
 (.seq (.block 3 (.seq (.reg [⟨none,.idx 34 16 (.t 30) (.t 32)⟩,
 ⟨none,.load 35 34 6 true⟩,
 ⟨none,.new 10 [.int .u64 0,.int .u64 0,.int .i64 0,.int .i64 0,.nil,.nil]⟩,
 ⟨none,.store 10 6 (.t 35)⟩])
 (.seq (.seq (.reg [⟨none,.mov 36 (.t 4)⟩,
 ⟨none,.mkf 37 217 [10]⟩,
 ⟨none,.call (some 38) 218 [(.t 36),(.t 37)] false⟩])
 (.cond (.t 38)
 (.exit 3)
 (.skip)))
 (.seq (.reg [⟨none,.fad 40 10 4⟩,
 ⟨none,.load 41 40 1 true⟩,
 ⟨none,.call (some 42) 209 [(.t 41)] false⟩,
 ⟨none,.mov 39 (.t 42)⟩,
 ⟨none,.ext 43 (.t 39) 0⟩,
 ⟨none,.ext 44 (.t 39) 1⟩,
 ⟨none,.mov 11 (.t 43)⟩,
 ⟨none,.mov 12 (.t 44)⟩])
 (.seq (.reg [⟨none,.mov 46 (.t 8)⟩,
 ⟨none,.mov 47 (.t 12)⟩,
 ⟨none,.add 48 (.t 46) (.t 47) (.k (.int .u64 0))⟩,
 ⟨none,.mov 45 (.t 48)⟩,
 ⟨none,.ext 49 (.t 45) 0⟩,
 ⟨none,.ext 50 (.t 45) 1⟩,
 ⟨none,.mov 13 (.t 49)⟩,
 ⟨none,.mov 14 (.t 50)⟩])
 (.seq (.reg [⟨none,.mov 51 (.t 13)⟩,
 ⟨none,.mov 8 (.t 51)⟩])
 (.reg [⟨none,.mov 52 (.t 7)⟩,
 ⟨none,.mov 53 (.t 11)⟩,
 ⟨none,.mov 54 (.t 14)⟩,
 ⟨none,.bin 55 .add (.t 53) (.t 54)⟩,
 ⟨none,.bin 56 .add (.t 52) (.t 55)⟩,
 ⟨none,.mov 7 (.t 56)⟩])))))))
 (.reg [⟨none,.bin 57 .add (.t 32) (.k (.int .i64 1))⟩,
 ⟨none,.mov 32 (.t 57)⟩])))
def r172L1:RC:=
 .seq (.reg [⟨none,.bin 22 .lss (.t 21) (.t 20)⟩])
 (.seq (.cond (.t 22)
 (.skip)
 (.exit 0))
 (.seq (.block 1 (.seq (.reg [⟨none,.idx 23 18 (.t 19) (.t 21)⟩,
 ⟨none,.load 24 23 3 true⟩,
 ⟨none,.loc 6 [.int .i64 0,.int .i64 0,.nil]⟩,
 ⟨none,.store 6 3 (.t 24)⟩])
 (.reg [⟨none,.mov 25 (.t 4)⟩,
 ⟨none,.fad 26 6 2⟩,
 ⟨none,.load 27 26 1 false⟩,
 ⟨none,.app 28 16 80 (.t 25) (.t 27)⟩,
 ⟨none,.mov 4 (.t 28)⟩])))
 (.reg [⟨none,.bin 29 .add (.t 21) (.k (.int .i64 1))⟩,
 ⟨none,.mov 21 (.t 29)⟩])))
def r172:RF:=
 ⟨1,[.tmp 2,.tmp 3],
 .seq (.reg [⟨none,.mov 2 (.k (.int .u64 0))⟩,
 ⟨none,.mov 3 (.k (.int .u64 0))⟩])
 (.seq (.seq (.reg [⟨none,.mov 15 (.t 0)⟩,
 ⟨none,.call (some 16) 216 [(.t 15)] false⟩,
 ⟨none,.not 17 (.t 16)⟩])
 (.cond (.t 17)
 (.seq (.reg [⟨none,.mov 2 (.k (.int .u64 0))⟩,
 ⟨none,.mov 3 (.k (.int .u64 0))⟩])
 (.ret))
 (.skip)))
 (.seq (.reg [⟨none,.lit 18 16 0 [.int .u64 0,.int .u64 0,.int .i64 0,.int .i64 0,.nil,.nil] []⟩,
 ⟨none,.mov 4 (.t 18)⟩])
 (.seq (.seq (.reg [⟨none,.mov 19 (.t 0)⟩,
 ⟨none,.len 20 (.t 19)⟩,
 ⟨none,.mov 21 (.k (.int .i64 0))⟩])
 (.block 0 (.loop [4,19,20,21]
 r172L1)))
 (.seq (.reg [⟨none,.mov 7 (.k (.int .u64 0))⟩,
 ⟨none,.mov 8 (.k (.int .u64 0))⟩])
 (.seq (.seq (.reg [⟨none,.mov 30 (.t 4)⟩,
 ⟨none,.len 31 (.t 30)⟩,
 ⟨none,.mov 32 (.k (.int .i64 0))⟩])
 (.block 2 (.loop [4,7,8,30,31,32]
 r172L0)))
 (.seq (.reg [⟨none,.mov 58 (.t 7)⟩,
 ⟨none,.mov 59 (.t 8)⟩,
 ⟨none,.mov 2 (.t 58)⟩,
 ⟨none,.mov 3 (.t 59)⟩])
 (.ret)))))))⟩
def r216:RF:=
 ⟨1,[.tmp 2],
 .seq (.reg [⟨none,.mov 2 (.k (.bool false))⟩])
 (.seq (.reg [⟨none,.mov 3 (.t 0)⟩,
 ⟨none,.len 4 (.t 3)⟩,
 ⟨none,.bin 5 .leq (.t 4) (.k (.int .i64 40))⟩,
 ⟨none,.mov 6 (.t 5)⟩,
 ⟨some (6,true),.mov 7 (.t 0)⟩,
 ⟨some (6,true),.call (some 8) 251 [(.t 7),(.k (.fn 250 []))] false⟩,
 ⟨some (6,true),.not 9 (.t 8)⟩,
 ⟨none,.pick 10 (.t 6) (.t 9) (.k (.bool false))⟩,
 ⟨none,.mov 2 (.t 10)⟩])
 (.ret))⟩
def r217:RF:=
 ⟨2,[.tmp 3],
 .seq (.reg [⟨none,.locb 2 (.t 0)⟩,
 ⟨none,.mov 3 (.k (.bool false))⟩])
 (.seq (.reg [⟨none,.fad 4 2 3⟩,
 ⟨none,.load 5 4 1 false⟩,
 ⟨none,.fad 6 1 3⟩,
 ⟨none,.load 7 6 1 false⟩,
 ⟨none,.bin 8 .gtr (.t 5) (.t 7)⟩,
 ⟨none,.mov 9 (.t 8)⟩,
 ⟨some (9,true),.fad 10 2 0⟩,
 ⟨some (9,true),.load 11 10 1 false⟩,
 ⟨some (9,true),.fad 12 1 1⟩,
 ⟨some (9,true),.load 13 12 1 false⟩,
 ⟨some (9,true),.bin 14 .leq (.t 11) (.t 13)⟩,
 ⟨none,.pick 15 (.t 9) (.t 14) (.k (.bool false))⟩,
 ⟨none,.mov 16 (.t 15)⟩,
 ⟨some (16,true),.fad 17 1 0⟩,
 ⟨some (16,true),.load 18 17 1 false⟩,
 ⟨some (16,true),.fad 19 2 1⟩,
 ⟨some (16,true),.load 20 19 1 false⟩,
 ⟨some (16,true),.bin 21 .leq (.t 18) (.t 20)⟩,
 ⟨none,.pick 22 (.t 16) (.t 21) (.k (.bool false))⟩,
 ⟨none,.mov 3 (.t 22)⟩])
 (.ret))⟩
def r250:RF:=
 ⟨1,[.tmp 2],
 .seq (.reg [⟨none,.locb 1 (.t 0)⟩,
 ⟨none,.mov 2 (.k (.bool false))⟩])
 (.seq (.reg [⟨none,.load 3 1 3 true⟩,
 ⟨none,.call (some 4) 206 [(.t 3)] false⟩,
 ⟨none,.not 5 (.t 4)⟩,
 ⟨none,.mov 2 (.t 5)⟩])
 (.ret))⟩
def r284L0:RC:=
 .seq (.reg [⟨none,.bin 16 .lss (.t 15) (.t 14)⟩])
 (.seq (.cond (.t 16)
 (.skip)
 (.exit 0))
 (.seq (.block 1 (.seq (.reg [⟨none,.mov 17 (.t 15)⟩,
 ⟨none,.idx 18 18 (.t 13) (.t 15)⟩,
 ⟨none,.load 19 18 3 true⟩,
 ⟨none,.loc 7 [.int .i64 0,.int .i64 0,.nil]⟩,
 ⟨none,.mov 6 (.t 17)⟩,
 ⟨none,.store 7 3 (.t 19)⟩])
 (.seq (.reg [⟨none,.load 20 7 3 true⟩,
 ⟨none,.mov 21 (.t 1)⟩,
 ⟨none,.call (some 22) 212 [(.t 20),(.t 21)] false⟩,
 ⟨none,.mov 8 (.t 22)⟩])
 (.seq (.reg [⟨none,.mov 23 (.t 8)⟩,
 ⟨none,.bin 24 .geq (.t 23) (.k (.int .i64 0))⟩,
 ⟨none,.mov 25 (.t 24)⟩,
 ⟨some (25,true),.fad 26 7 2⟩,
 ⟨some (25,true),.load 27 26 1 false⟩,
 ⟨some (25,true),.mov 28 (.t 8)⟩,
 ⟨some (25,true),.idx 29 16 (.t 27) (.t 28)⟩,
 ⟨some (25,true),.fad 30 29 2⟩,
 ⟨some (25,true),.load 31 30 1 false⟩,
 ⟨some (25,true),.bin 32 .eql (.t 31) (.k (.int .i64 0))⟩,
 ⟨none,.pick 33 (.t 25) (.t 32) (.k (.bool false))⟩])
 (.cond (.t 33)
 (.reg [⟨none,.mov 34 (.t 5)⟩,
 ⟨none,.mov 35 (.t 6)⟩,
 ⟨none,.lit 36 15 1 [.int .i64 0] [(0,(.t 35))]⟩,
 ⟨none,.app 37 15 8 (.t 34) (.t 36)⟩,
 ⟨none,.mov 5 (.t 37)⟩])
 (.skip))))))
 (.reg [⟨none,.bin 38 .add (.t 15) (.k (.int .i64 1))⟩,
 ⟨none,.mov 15 (.t 38)⟩])))
def r284:RF:=
 ⟨2,[.tmp 4],
 .seq (.reg [⟨none,.mov 4 (.k (.nil))⟩])
 (.seq (.seq (.reg [⟨none,.mov 9 (.t 0)⟩,
 ⟨none,.call (some 10) 216 [(.t 9)] false⟩,
 ⟨none,.not 11 (.t 10)⟩])
 (.cond (.t 11)
 (.seq (.reg [⟨none,.mov 4 (.k (.nil))⟩])
 (.ret))
 (.skip)))
 (.seq (.reg [⟨none,.lit 12 15 0 [.int .i64 0] []⟩,
 ⟨none,.mov 5 (.t 12)⟩])
 (.seq (.seq (.reg [⟨none,.mov 13 (.t 0)⟩,
 ⟨none,.len 14 (.t 13)⟩,
 ⟨none,.mov 15 (.k (.int .i64 0))⟩])
 (.block 0 (.loop [1,5,13,14,15]
 r284L0)))
 (.seq (.reg [⟨none,.mov 39 (.t 5)⟩,
 ⟨none,.mov 4 (.t 39)⟩])
 (.ret)))))⟩
def r304:RF:=
 ⟨2,[.cell 4 10 true,.tmp 5],
 .seq (.reg [⟨none,.locb 2 (.t 0)⟩,
 ⟨none,.locb 3 (.t 1)⟩,
 ⟨none,.loc 4 [.int .i64 0,.int .u64 0,.int .i64 0,.int .i64 0,.int .u64 0,.int .u64 0,.int .i64 0,.int .i64 0,.nil,.nil]⟩,
 ⟨none,.mov 5 (.k (.bool false))⟩])
 (.seq (.reg [⟨none,.load 6 2 5 true⟩,
 ⟨none,.load 7 3 3 true⟩,
 ⟨none,.call (some 8) 331 [(.t 6),(.t 7)] false⟩,
 ⟨none,.ext 9 (.t 8) 0⟩,
 ⟨none,.ext 10 (.t 8) 1⟩,
 ⟨none,.store 4 10 (.t 9)⟩,
 ⟨none,.mov 5 (.t 10)⟩])
 (.ret))⟩
def r315:RF:=
 ⟨2,[.cell 4 3 true,.tmp 5],
 .seq (.reg [⟨none,.locb 2 (.t 0)⟩,
 ⟨none,.locb 3 (.t 1)⟩,
 ⟨none,.loc 4 [.int .i64 0,.int .i64 0,.nil]⟩,
 ⟨none,.mov 5 (.k (.bool false))⟩])
 (.seq (.reg [⟨none,.load 6 2 3 true⟩,
 ⟨none,.load 7 3 10 true⟩,
 ⟨none,.call (some 8) 334 [(.t 6),(.t 7)] false⟩,
 ⟨none,.ext 9 (.t 8) 0⟩,
 ⟨none,.ext 10 (.t 8) 1⟩,
 ⟨none,.store 4 3 (.t 9)⟩,
 ⟨none,.mov 5 (.t 10)⟩])
 (.ret))⟩
def r331:RF:=
 ⟨2,[.cell 4 10 true,.tmp 5],
 .seq (.reg [⟨none,.locb 2 (.t 0)⟩,
 ⟨none,.locb 3 (.t 1)⟩,
 ⟨none,.loc 4 [.int .i64 0,.int .u64 0,.int .i64 0,.int .i64 0,.int .u64 0,.int .u64 0,.int .i64 0,.int .i64 0,.nil,.nil]⟩,
 ⟨none,.mov 5 (.k (.bool false))⟩])
 (.seq (.seq (.reg [⟨none,.load 9 2 5 true⟩,
 ⟨none,.call (some 10) 6 [(.t 9)] false⟩,
 ⟨none,.not 11 (.t 10)⟩,
 ⟨none,.mov 12 (.t 11)⟩,
 ⟨some (12,false),.fad 13 2 4⟩,
 ⟨some (12,false),.load 14 13 1 false⟩,
 ⟨some (12,false),.bin 15 .eql (.t 14) (.k (.int .i64 3))⟩,
 ⟨none,.pick 16 (.t 12) (.k (.bool true)) (.t 15)⟩])
 (.cond (.t 16)
 (.seq (.reg [⟨none,.build 17 [.int .i64 0,.int .u64 0,.int .i64 0,.int .i64 0,.int .u64 0,.int .u64 0,.int .i64 0,.int .i64 0,.nil,.nil] []⟩,
 ⟨none,.store 4 10 (.t 17)⟩,
 ⟨none,.mov 5 (.k (.bool false))⟩])
 (.ret))
 (.skip)))
 (.seq (.reg [⟨none,.chk [6]⟩,
 ⟨none,.loc 6 [.int .i64 0,.int .u64 0,.int .i64 0,.int .i64 0,.int .u64 0,.int .u64 0,.int .i64 0,.int .i64 0,.nil,.nil]⟩,
 ⟨none,.fad 18 2 4⟩,
 ⟨none,.load 19 18 1 false⟩,
 ⟨none,.fad 20 2 0⟩,
 ⟨none,.load 21 20 1 false⟩,
 ⟨none,.fad 22 2 1⟩,
 ⟨none,.load 23 22 1 false⟩,
 ⟨none,.load 24 2 5 true⟩,
 ⟨none,.call (some 25) 132 [(.t 24)] true⟩,
 ⟨none,.build 26 [.int .i64 0,.int .u64 0,.int .i64 0,.int .i64 0,.int .u64 0,.int .u64 0,.int .i64 0,.int .i64 0,.nil,.nil] [(0,1,(.t 19)),(1,1,(.t 21)),(2,1,(.t 23)),(3,1,(.t 25))]⟩,
 ⟨none,.store 6 10 (.t 26)⟩])
 (.seq (.seq (.reg [⟨none,.fad 27 2 4⟩,
 ⟨none,.load 28 27 1 false⟩,
 ⟨none,.bin 29 .eql (.t 28) (.k (.int .i64 1))⟩])
 (.cond (.t 29)
 (.seq (.reg [⟨none,.load 31 3 3 true⟩,
 ⟨none,.fad 32 2 0⟩,
 ⟨none,.load 33 32 1 false⟩,
 ⟨none,.call (some 34) 190 [(.t 31),(.t 33)] false⟩,
 ⟨none,.mov 30 (.t 34)⟩,
 ⟨none,.ext 35 (.t 30) 0⟩,
 ⟨none,.ext 36 (.t 30) 1⟩,
 ⟨none,.loc 7 [.int .u64 0,.int .u64 0,.int .i64 0,.int .i64 0,.nil,.nil]⟩,
 ⟨none,.store 7 6 (.t 35)⟩,
 ⟨none,.mov 8 (.t 36)⟩])
 (.seq (.seq (.reg [⟨none,.mov 37 (.t 8)⟩,
 ⟨none,.not 38 (.t 37)⟩,
 ⟨none,.mov 39 (.t 38)⟩,
 ⟨some (39,false),.fad 40 7 3⟩,
 ⟨some (39,false),.load 41 40 1 false⟩,
 ⟨some (39,false),.fad 42 2 3⟩,
 ⟨some (39,false),.load 43 42 1 false⟩,
 ⟨some (39,false),.bin 44 .neq (.t 41) (.t 43)⟩,
 ⟨none,.pick 45 (.t 39) (.k (.bool true)) (.t 44)⟩])
 (.cond (.t 45)
 (.seq (.reg [⟨none,.build 46 [.int .i64 0,.int .u64 0,.int .i64 0,.int .i64 0,.int .u64 0,.int .u64 0,.int .i64 0,.int .i64 0,.nil,.nil] []⟩,
 ⟨none,.store 4 10 (.t 46)⟩,
 ⟨none,.mov 5 (.k (.bool false))⟩])
 (.ret))
 (.skip)))
 (.seq (.reg [⟨none,.fad 47 2 2⟩,
 ⟨none,.load 48 47 1 false⟩,
 ⟨none,.fad 49 6 2⟩,
 ⟨none,.store 49 1 (.t 48)⟩])
 (.reg [⟨none,.load 50 7 6 true⟩,
 ⟨none,.fad 51 6 4⟩,
 ⟨none,.store 51 6 (.t 50)⟩]))))
 (.skip)))
 (.seq (.reg [⟨none,.load 52 6 10 true⟩,
 ⟨none,.store 4 10 (.t 52)⟩,
 ⟨none,.mov 5 (.k (.bool true))⟩])
 (.ret)))))⟩
def r334:RF:=
 ⟨2,[.cell 4 3 true,.tmp 5],
 .seq (.reg [⟨none,.locb 2 (.t 0)⟩,
 ⟨none,.locb 3 (.t 1)⟩,
 ⟨none,.loc 4 [.int .i64 0,.int .i64 0,.nil]⟩,
 ⟨none,.mov 5 (.k (.bool false))⟩])
 (.seq (.seq (.reg [⟨none,.fad 6 3 2⟩,
 ⟨none,.load 7 6 1 false⟩,
 ⟨none,.fad 8 2 0⟩,
 ⟨none,.load 9 8 1 false⟩,
 ⟨none,.bin 10 .neq (.t 7) (.t 9)⟩])
 (.cond (.t 10)
 (.seq (.reg [⟨none,.load 11 2 3 true⟩,
 ⟨none,.call (some 12) 320 [(.t 11)] false⟩,
 ⟨none,.store 4 3 (.t 12)⟩,
 ⟨none,.mov 5 (.k (.bool false))⟩])
 (.ret))
 (.skip)))
 (.seq (.seq (.reg [⟨none,.fad 13 3 0⟩,
 ⟨none,.load 14 13 1 false⟩])
 (.block 0 (.seq (.reg [⟨none,.bin 16 .eql (.t 14) (.k (.int .i64 0))⟩,
 ⟨none,.mov 15 (.t 16)⟩])
 (.cond (.t 15)
 (.seq (.reg [⟨none,.load 17 2 3 true⟩,
 ⟨none,.fad 18 3 1⟩,
 ⟨none,.load 19 18 1 false⟩,
 ⟨none,.fad 20 3 3⟩,
 ⟨none,.load 21 20 1 false⟩,
 ⟨none,.call (some 22) 301 [(.t 17),(.t 19),(.t 21)] false⟩,
 ⟨none,.ext 23 (.t 22) 0⟩,
 ⟨none,.ext 24 (.t 22) 1⟩,
 ⟨none,.store 4 3 (.t 23)⟩,
 ⟨none,.mov 5 (.t 24)⟩])
 (.ret))
 (.seq (.reg [⟨none,.bin 26 .eql (.t 14) (.k (.int .i64 1))⟩,
 ⟨none,.mov 25 (.t 26)⟩])
 (.cond (.t 25)
 (.seq (.reg [⟨none,.load 27 2 3 true⟩,
 ⟨none,.fad 28 3 4⟩,
 ⟨none,.load 29 28 6 true⟩,
 ⟨none,.fad 30 3 3⟩,
 ⟨none,.load 31 30 1 false⟩,
 ⟨none,.call (some 32) 309 [(.t 27),(.t 29),(.t 31)] false⟩,
 ⟨none,.ext 33 (.t 32) 0⟩,
 ⟨none,.ext 34 (.t 32) 1⟩,
 ⟨none,.store 4 3 (.t 33)⟩,
 ⟨none,.mov 5 (.t 34)⟩])
 (.ret))
 (.seq (.reg [⟨none,.bin 36 .eql (.t 14) (.k (.int .i64 2))⟩,
 ⟨none,.mov 35 (.t 36)⟩])
 (.cond (.t 35)
 (.seq (.reg [⟨none,.load 37 2 3 true⟩,
 ⟨none,.fad 38 3 1⟩,
 ⟨none,.load 39 38 1 false⟩,
 ⟨none,.fad 40 3 3⟩,
 ⟨none,.load 41 40 1 false⟩,
 ⟨none,.call (some 42) 298 [(.t 37),(.t 39),(.t 41)] false⟩,
 ⟨none,.ext 43 (.t 42) 0⟩,
 ⟨none,.ext 44 (.t 42) 1⟩,
 ⟨none,.store 4 3 (.t 43)⟩,
 ⟨none,.mov 5 (.t 44)⟩])
 (.ret))
 (.skip)))))))))
 (.seq (.reg [⟨none,.load 45 2 3 true⟩,
 ⟨none,.call (some 46) 320 [(.t 45)] false⟩,
 ⟨none,.store 4 3 (.t 46)⟩,
 ⟨none,.mov 5 (.k (.bool false))⟩])
 (.ret))))⟩
def Wbp:RC:=
 .seq (.reg [⟨none,.bin 64 .lss (.t 63) (.t 62)⟩])
 (.seq (.cond (.t 64)
 (.skip)
 (.exit 0))
 (.seq (.block 1 (.seq (.reg [⟨none,.idx 65 15 (.t 61) (.t 63)⟩,
 ⟨none,.load 66 65 1 false⟩,
 ⟨none,.mov 13 (.t 66)⟩])
 (.seq (.seq (.reg [⟨none,.mov 67 (.t 13)⟩,
 ⟨none,.bin 68 .eql (.t 67) (.k (.int .i64 0))⟩])
 (.cond (.t 68)
 (.seq (.seq (.reg [⟨none,.load 70 4 5 true⟩,
 ⟨none,.load 71 5 3 true⟩,
 ⟨none,.call (some 72) 331 [(.t 70),(.t 71)] false⟩,
 ⟨none,.mov 69 (.t 72)⟩,
 ⟨none,.ext 73 (.t 69) 0⟩,
 ⟨none,.ext 74 (.t 69) 1⟩,
 ⟨none,.loc 14 [.int .i64 0,.int .u64 0,.int .i64 0,.int .i64 0,.int .u64 0,.int .u64 0,.int .i64 0,.int .i64 0,.nil,.nil]⟩,
 ⟨none,.store 14 10 (.t 73)⟩,
 ⟨none,.mov 15 (.t 74)⟩])
 (.seq (.reg [⟨none,.mov 75 (.t 15)⟩,
 ⟨none,.mov 76 (.t 75)⟩,
 ⟨some (76,true),.mov 77 (.t 11)⟩,
 ⟨some (76,true),.len 78 (.t 77)⟩,
 ⟨some (76,true),.bin 79 .lss (.t 78) (.k (.int .i64 40))⟩,
 ⟨none,.pick 80 (.t 76) (.t 79) (.k (.bool false))⟩])
 (.cond (.t 80)
 (.reg [⟨none,.mov 81 (.t 11)⟩,
 ⟨none,.load 82 14 10 true⟩,
 ⟨none,.lit 83 22 1 [.int .i64 0,.int .u64 0,.int .i64 0,.int .i64 0,.int .u64 0,.int .u64 0,.int .i64 0,.int .i64 0,.nil,.nil] [(0,(.t 82))]⟩,
 ⟨none,.app 84 22 112 (.t 81) (.t 83)⟩,
 ⟨none,.mov 11 (.t 84)⟩])
 (.skip))))
 (.exit 1))
 (.skip)))
 (.seq (.reg [⟨none,.mov 85 (.t 13)⟩,
 ⟨none,.bin 86 .sub (.t 85) (.k (.int .i64 1))⟩,
 ⟨none,.bin 87 .quo (.t 86) (.k (.int .i64 3))⟩,
 ⟨none,.mov 16 (.t 87)⟩])
 (.seq (.seq (.reg [⟨none,.mov 88 (.t 13)⟩,
 ⟨none,.bin 89 .lss (.t 88) (.k (.int .i64 0))⟩,
 ⟨none,.mov 90 (.t 89)⟩,
 ⟨some (90,false),.mov 91 (.t 16)⟩,
 ⟨some (90,false),.mov 92 (.t 11)⟩,
 ⟨some (90,false),.len 93 (.t 92)⟩,
 ⟨some (90,false),.bin 94 .geq (.t 91) (.t 93)⟩,
 ⟨none,.pick 95 (.t 90) (.k (.bool true)) (.t 94)⟩])
 (.cond (.t 95)
 (.exit 1)
 (.skip)))
 (.seq (.reg [⟨none,.mov 96 (.t 11)⟩,
 ⟨none,.mov 97 (.t 16)⟩,
 ⟨none,.idx 98 22 (.t 96) (.t 97)⟩,
 ⟨none,.load 99 98 10 true⟩,
 ⟨none,.loc 17 [.int .i64 0,.int .u64 0,.int .i64 0,.int .i64 0,.int .u64 0,.int .u64 0,.int .i64 0,.int .i64 0,.nil,.nil]⟩,
 ⟨none,.store 17 10 (.t 99)⟩])
 (.seq (.seq (.reg [⟨none,.mov 100 (.t 13)⟩,
 ⟨none,.bin 101 .rem (.t 100) (.k (.int .i64 3))⟩,
 ⟨none,.bin 102 .eql (.t 101) (.k (.int .i64 0))⟩])
 (.cond (.t 102)
 (.seq (.seq (.reg [⟨none,.mov 103 (.t 11)⟩,
 ⟨none,.len 104 (.t 103)⟩,
 ⟨none,.bin 105 .lss (.t 104) (.k (.int .i64 40))⟩])
 (.cond (.t 105)
 (.reg [⟨none,.mov 106 (.t 11)⟩,
 ⟨none,.load 107 17 10 true⟩,
 ⟨none,.lit 108 22 1 [.int .i64 0,.int .u64 0,.int .i64 0,.int .i64 0,.int .u64 0,.int .u64 0,.int .i64 0,.int .i64 0,.nil,.nil] [(0,(.t 107))]⟩,
 ⟨none,.app 109 22 112 (.t 106) (.t 108)⟩,
 ⟨none,.mov 11 (.t 109)⟩])
 (.skip)))
 (.exit 1))
 (.skip)))
 (.seq (.reg [⟨none,.mov 110 (.t 11)⟩,
 ⟨none,.mov 111 (.t 16)⟩,
 ⟨none,.mov 112 (.t 16)⟩,
 ⟨none,.bin 113 .add (.t 112) (.k (.int .i64 1))⟩,
 ⟨none,.call (some 114) 376 [(.t 110),(.t 111),(.t 113)] false⟩,
 ⟨none,.mov 11 (.t 114)⟩])
 (.seq (.seq (.reg [⟨none,.mov 115 (.t 13)⟩,
 ⟨none,.bin 116 .rem (.t 115) (.k (.int .i64 3))⟩,
 ⟨none,.bin 117 .eql (.t 116) (.k (.int .i64 2))⟩])
 (.cond (.t 117)
 (.exit 1)
 (.skip)))
 (.seq (.reg [⟨none,.mov 18 (.t 6)⟩])
 (.seq (.seq (.reg [⟨none,.fad 118 17 2⟩,
 ⟨none,.load 119 118 1 false⟩,
 ⟨none,.fad 120 4 1⟩,
 ⟨none,.load 121 120 1 false⟩,
 ⟨none,.bin 122 .eql (.t 119) (.t 121)⟩])
 (.cond (.t 122)
 (.reg [⟨none,.mov 18 (.t 5)⟩])
 (.skip)))
 (.seq (.reg [⟨none,.chk [19]⟩,
 ⟨none,.loc 19 [.int .i64 0,.int .i64 0,.nil]⟩,
 ⟨none,.mov 124 (.t 18)⟩,
 ⟨none,.nilc 125 (.t 124)⟩,
 ⟨none,.load 126 125 3 true⟩,
 ⟨none,.load 127 17 10 true⟩,
 ⟨none,.call (some 128) 334 [(.t 126),(.t 127)] true⟩,
 ⟨none,.mov 123 (.t 128)⟩,
 ⟨none,.ext 129 (.t 123) 0⟩,
 ⟨none,.ext 130 (.t 123) 1⟩,
 ⟨none,.store 19 3 (.t 129)⟩,
 ⟨none,.mov 20 (.t 130)⟩])
 (.seq (.reg [⟨none,.mov 131 (.t 18)⟩,
 ⟨none,.load 132 19 3 true⟩,
 ⟨none,.nilc 133 (.t 131)⟩,
 ⟨none,.store 133 3 (.t 132)⟩])
 (.seq (.reg [⟨none,.mov 134 (.t 20)⟩])
 (.cond (.t 134)
 (.reg [⟨none,.load 136 4 5 true⟩,
 ⟨none,.load 137 17 10 true⟩,
 ⟨none,.call (some 138) 113 [(.t 136),(.t 137)] false⟩,
 ⟨none,.mov 135 (.t 138)⟩,
 ⟨none,.ext 139 (.t 135) 0⟩,
 ⟨none,.ext 140 (.t 135) 1⟩,
 ⟨none,.store 4 5 (.t 139)⟩])
 (.skip))))))))))))))))
 (.reg [⟨none,.bin 141 .add (.t 63) (.k (.int .i64 1))⟩,
 ⟨none,.mov 63 (.t 141)⟩])))
def r368:RF:=
 ⟨4,[.cell 8 5 true,.cell 9 3 true,.cell 10 3 true],
 .seq (.reg [⟨none,.locb 4 (.t 0)⟩,
 ⟨none,.newb 5 (.t 1)⟩,
 ⟨none,.newb 6 (.t 2)⟩,
 ⟨none,.loc 8 [.int .u64 0,.int .i64 0,.int .i64 0,.int .i64 0,.int .i64 0]⟩,
 ⟨none,.loc 9 [.int .i64 0,.int .i64 0,.nil]⟩,
 ⟨none,.loc 10 [.int .i64 0,.int .i64 0,.nil]⟩])
 (.seq (.reg [⟨none,.load 21 5 3 true⟩,
 ⟨none,.call (some 22) 320 [(.t 21)] false⟩,
 ⟨none,.store 5 3 (.t 22)⟩])
 (.seq (.reg [⟨none,.load 23 6 3 true⟩,
 ⟨none,.call (some 24) 320 [(.t 23)] false⟩,
 ⟨none,.store 6 3 (.t 24)⟩])
 (.seq (.seq (.reg [⟨none,.load 25 4 5 true⟩,
 ⟨none,.call (some 26) 6 [(.t 25)] false⟩,
 ⟨none,.not 27 (.t 26)⟩,
 ⟨none,.mov 28 (.t 27)⟩,
 ⟨some (28,false),.load 29 5 3 true⟩,
 ⟨some (28,false),.call (some 30) 206 [(.t 29)] false⟩,
 ⟨some (28,false),.not 31 (.t 30)⟩,
 ⟨none,.pick 32 (.t 28) (.k (.bool true)) (.t 31)⟩,
 ⟨none,.mov 33 (.t 32)⟩,
 ⟨some (33,false),.fad 34 5 0⟩,
 ⟨some (33,false),.load 35 34 1 false⟩,
 ⟨some (33,false),.fad 36 4 1⟩,
 ⟨some (33,false),.load 37 36 1 false⟩,
 ⟨some (33,false),.bin 38 .neq (.t 35) (.t 37)⟩,
 ⟨none,.pick 39 (.t 33) (.k (.bool true)) (.t 38)⟩,
 ⟨none,.mov 40 (.t 39)⟩,
 ⟨some (40,false),.load 41 6 3 true⟩,
 ⟨some (40,false),.call (some 42) 206 [(.t 41)] false⟩,
 ⟨some (40,false),.not 43 (.t 42)⟩,
 ⟨none,.pick 44 (.t 40) (.k (.bool true)) (.t 43)⟩,
 ⟨none,.mov 45 (.t 44)⟩,
 ⟨some (45,false),.fad 46 6 0⟩,
 ⟨some (45,false),.load 47 46 1 false⟩,
 ⟨some (45,false),.fad 48 4 2⟩,
 ⟨some (45,false),.load 49 48 1 false⟩,
 ⟨some (45,false),.bin 50 .neq (.t 47) (.t 49)⟩,
 ⟨none,.pick 51 (.t 45) (.k (.bool true)) (.t 50)⟩,
 ⟨none,.mov 52 (.t 51)⟩,
 ⟨some (52,false),.mov 53 (.t 3)⟩,
 ⟨some (52,false),.len 54 (.t 53)⟩,
 ⟨some (52,false),.bin 55 .gtr (.t 54) (.k (.int .i64 200))⟩,
 ⟨none,.pick 56 (.t 52) (.k (.bool true)) (.t 55)⟩])
 (.cond (.t 56)
 (.seq (.reg [⟨none,.chk []⟩,
 ⟨none,.own [8,9]⟩,
 ⟨none,.load 57 4 5 true⟩,
 ⟨none,.load 58 5 3 true⟩,
 ⟨none,.load 59 6 3 true⟩,
 ⟨none,.lst 8 5 (.t 57)⟩,
 ⟨none,.lst 9 3 (.t 58)⟩,
 ⟨none,.store 10 3 (.t 59)⟩])
 (.ret))
 (.skip)))
 (.seq (.reg [⟨none,.lit 60 22 0 [.int .i64 0,.int .u64 0,.int .i64 0,.int .i64 0,.int .u64 0,.int .u64 0,.int .i64 0,.int .i64 0,.nil,.nil] []⟩,
 ⟨none,.mov 11 (.t 60)⟩])
 (.seq (.seq (.reg [⟨none,.mov 61 (.t 3)⟩,
 ⟨none,.len 62 (.t 61)⟩,
 ⟨none,.mov 63 (.k (.int .i64 0))⟩])
 (.block 0 (.loop [4,5,6,8,9,10,11,61,62,63]
 Wbp)))
 (.seq (.reg [⟨none,.chk []⟩,
 ⟨none,.own [8,9]⟩,
 ⟨none,.load 142 4 5 true⟩,
 ⟨none,.load 143 5 3 true⟩,
 ⟨none,.load 144 6 3 true⟩,
 ⟨none,.lst 8 5 (.t 142)⟩,
 ⟨none,.lst 9 3 (.t 143)⟩,
 ⟨none,.store 10 3 (.t 144)⟩])
 (.ret)))))))⟩
def tI15:List (Nat×RF):=[(4,r4),(6,r6),(113,r113),(132,r132),(167,r167),(172,r172),(216,r216),(217,r217),(250,r250),(284,r284),(304,r304),(315,r315),(331,r331),(334,r334),(368,r368)]
def r397L0:RC:=
 .seq (.seq (.reg [⟨none,.mov 13 (.t 5)⟩,
 ⟨none,.fad 14 2 0⟩,
 ⟨none,.load 15 14 1 false⟩,
 ⟨none,.len 16 (.t 15)⟩,
 ⟨none,.bin 17 .lss (.t 13) (.t 16)⟩])
 (.cond (.t 17)
 (.skip)
 (.exit 0)))
 (.seq (.block 1 (.seq (.reg [⟨none,.chk []⟩,
 ⟨none,.mov 22 (.t 5)⟩,
 ⟨none,.mov 27 (.t 5)⟩,
 ⟨none,.fad 20 2 0⟩,
 ⟨none,.load 21 20 1 false⟩,
 ⟨none,.idx 23 11 (.t 21) (.t 22)⟩,
 ⟨none,.load 24 23 5 true⟩,
 ⟨none,.fad 25 3 0⟩,
 ⟨none,.load 26 25 1 false⟩,
 ⟨none,.idx 28 11 (.t 26) (.t 27)⟩,
 ⟨none,.load 29 28 5 true⟩,
 ⟨none,.eqs 30 true [.i .u64,.i .u64,.i .u64,.i .u64,.i .i64] (.t 24) (.t 29)⟩])
 (.cond (.t 30)
 (.seq (.reg [⟨none,.mov 4 (.k (.bool false))⟩])
 (.ret))
 (.skip))))
 (.reg [⟨none,.mov 18 (.t 5)⟩,
 ⟨none,.bin 19 .add (.t 18) (.k (.int .i64 1))⟩,
 ⟨none,.mov 5 (.t 19)⟩]))
def r397:RF:=
 ⟨2,[.tmp 4],
 .seq (.reg [⟨none,.locb 2 (.t 0)⟩,
 ⟨none,.locb 3 (.t 1)⟩,
 ⟨none,.mov 4 (.k (.bool false))⟩])
 (.seq (.seq (.reg [⟨none,.fad 6 2 0⟩,
 ⟨none,.load 7 6 1 false⟩,
 ⟨none,.len 8 (.t 7)⟩,
 ⟨none,.fad 9 3 0⟩,
 ⟨none,.load 10 9 1 false⟩,
 ⟨none,.len 11 (.t 10)⟩,
 ⟨none,.bin 12 .neq (.t 8) (.t 11)⟩])
 (.cond (.t 12)
 (.seq (.reg [⟨none,.mov 4 (.k (.bool false))⟩])
 (.ret))
 (.skip)))
 (.seq (.seq (.reg [⟨none,.mov 5 (.k (.int .i64 0))⟩])
 (.block 0 (.loop [2,3,5]
 r397L0)))
 (.seq (.reg [⟨none,.mov 4 (.k (.bool true))⟩])
 (.ret))))⟩
def tLBook:List (Nat×RF):=[(397,r397)]
def r394L0:RC:=
 .seq (.seq (.reg [⟨none,.mov 49 (.t 5)⟩,
 ⟨none,.fad 50 2 5⟩,
 ⟨none,.load 51 50 1 false⟩,
 ⟨none,.len 52 (.t 51)⟩,
 ⟨none,.bin 53 .lss (.t 49) (.t 52)⟩])
 (.cond (.t 53)
 (.skip)
 (.exit 0)))
 (.seq (.block 1 (.seq (.reg [⟨none,.chk []⟩,
 ⟨none,.mov 58 (.t 5)⟩,
 ⟨none,.mov 63 (.t 5)⟩,
 ⟨none,.fad 56 2 5⟩,
 ⟨none,.load 57 56 1 false⟩,
 ⟨none,.idx 59 9 (.t 57) (.t 58)⟩,
 ⟨none,.load 60 59 2 true⟩,
 ⟨none,.fad 61 3 5⟩,
 ⟨none,.load 62 61 1 false⟩,
 ⟨none,.idx 64 9 (.t 62) (.t 63)⟩,
 ⟨none,.load 65 64 2 true⟩,
 ⟨none,.eqs 66 true [.i .i64,.i .u64] (.t 60) (.t 65)⟩])
 (.cond (.t 66)
 (.seq (.reg [⟨none,.mov 4 (.k (.bool false))⟩])
 (.ret))
 (.skip))))
 (.reg [⟨none,.mov 54 (.t 5)⟩,
 ⟨none,.bin 55 .add (.t 54) (.k (.int .i64 1))⟩,
 ⟨none,.mov 5 (.t 55)⟩]))
def r394:RF:=
 ⟨2,[.tmp 4],
 .seq (.reg [⟨none,.locb 2 (.t 0)⟩,
 ⟨none,.locb 3 (.t 1)⟩,
 ⟨none,.mov 4 (.k (.bool false))⟩])
 (.seq (.seq (.reg [⟨none,.fad 6 2 0⟩,
 ⟨none,.load 7 6 1 false⟩,
 ⟨none,.fad 8 3 0⟩,
 ⟨none,.load 9 8 1 false⟩,
 ⟨none,.bin 10 .neq (.t 7) (.t 9)⟩,
 ⟨none,.mov 11 (.t 10)⟩,
 ⟨some (11,false),.fad 12 2 1⟩,
 ⟨some (11,false),.load 13 12 1 false⟩,
 ⟨some (11,false),.fad 14 3 1⟩,
 ⟨some (11,false),.load 15 14 1 false⟩,
 ⟨some (11,false),.bin 16 .neq (.t 13) (.t 15)⟩,
 ⟨none,.pick 17 (.t 11) (.k (.bool true)) (.t 16)⟩,
 ⟨none,.mov 18 (.t 17)⟩,
 ⟨some (18,false),.fad 19 2 2⟩,
 ⟨some (18,false),.load 20 19 1 false⟩,
 ⟨some (18,false),.fad 21 3 2⟩,
 ⟨some (18,false),.load 22 21 1 false⟩,
 ⟨some (18,false),.bin 23 .neq (.t 20) (.t 22)⟩,
 ⟨none,.pick 24 (.t 18) (.k (.bool true)) (.t 23)⟩,
 ⟨none,.mov 25 (.t 24)⟩,
 ⟨some (25,false),.fad 26 2 3⟩,
 ⟨some (25,false),.load 27 26 1 false⟩,
 ⟨some (25,false),.fad 28 3 3⟩,
 ⟨some (25,false),.load 29 28 1 false⟩,
 ⟨some (25,false),.bin 30 .neq (.t 27) (.t 29)⟩,
 ⟨none,.pick 31 (.t 25) (.k (.bool true)) (.t 30)⟩,
 ⟨none,.mov 32 (.t 31)⟩,
 ⟨some (32,false),.fad 33 2 4⟩,
 ⟨some (32,false),.load 34 33 1 true⟩,
 ⟨some (32,false),.fad 35 3 4⟩,
 ⟨some (32,false),.load 36 35 1 true⟩,
 ⟨some (32,false),.call (some 37) 397 [(.t 34),(.t 36)] false⟩,
 ⟨some (32,false),.not 38 (.t 37)⟩,
 ⟨none,.pick 39 (.t 32) (.k (.bool true)) (.t 38)⟩,
 ⟨none,.mov 40 (.t 39)⟩,
 ⟨some (40,false),.fad 41 2 5⟩,
 ⟨some (40,false),.load 42 41 1 false⟩,
 ⟨some (40,false),.len 43 (.t 42)⟩,
 ⟨some (40,false),.fad 44 3 5⟩,
 ⟨some (40,false),.load 45 44 1 false⟩,
 ⟨some (40,false),.len 46 (.t 45)⟩,
 ⟨some (40,false),.bin 47 .neq (.t 43) (.t 46)⟩,
 ⟨none,.pick 48 (.t 40) (.k (.bool true)) (.t 47)⟩])
 (.cond (.t 48)
 (.seq (.reg [⟨none,.mov 4 (.k (.bool false))⟩])
 (.ret))
 (.skip)))
 (.seq (.seq (.reg [⟨none,.mov 5 (.k (.int .i64 0))⟩])
 (.block 0 (.loop [2,3,5]
 r394L0)))
 (.seq (.reg [⟨none,.mov 4 (.k (.bool true))⟩])
 (.ret))))⟩
def tLShard:List (Nat×RF):=[(394,r394)]
def r385L0:RC:=
 .seq (.seq (.reg [⟨none,.mov 27 (.t 5)⟩,
 ⟨none,.fad 28 2 2⟩,
 ⟨none,.load 29 28 1 false⟩,
 ⟨none,.len 30 (.t 29)⟩,
 ⟨none,.bin 31 .lss (.t 27) (.t 30)⟩])
 (.cond (.t 31)
 (.skip)
 (.exit 0)))
 (.seq (.block 1 (.seq (.reg [⟨none,.chk []⟩,
 ⟨none,.mov 36 (.t 5)⟩,
 ⟨none,.mov 41 (.t 5)⟩,
 ⟨none,.fad 34 2 2⟩,
 ⟨none,.load 35 34 1 false⟩,
 ⟨none,.idx 37 16 (.t 35) (.t 36)⟩,
 ⟨none,.load 38 37 6 true⟩,
 ⟨none,.fad 39 3 2⟩,
 ⟨none,.load 40 39 1 false⟩,
 ⟨none,.idx 42 16 (.t 40) (.t 41)⟩,
 ⟨none,.load 43 42 6 true⟩,
 ⟨none,.call (some 44) 394 [(.t 38),(.t 43)] true⟩,
 ⟨none,.not 45 (.t 44)⟩])
 (.cond (.t 45)
 (.seq (.reg [⟨none,.mov 4 (.k (.bool false))⟩])
 (.ret))
 (.skip))))
 (.reg [⟨none,.mov 32 (.t 5)⟩,
 ⟨none,.bin 33 .add (.t 32) (.k (.int .i64 1))⟩,
 ⟨none,.mov 5 (.t 33)⟩]))
def r385:RF:=
 ⟨2,[.tmp 4],
 .seq (.reg [⟨none,.locb 2 (.t 0)⟩,
 ⟨none,.locb 3 (.t 1)⟩,
 ⟨none,.mov 4 (.k (.bool false))⟩])
 (.seq (.seq (.reg [⟨none,.fad 6 2 0⟩,
 ⟨none,.load 7 6 1 false⟩,
 ⟨none,.fad 8 3 0⟩,
 ⟨none,.load 9 8 1 false⟩,
 ⟨none,.bin 10 .neq (.t 7) (.t 9)⟩,
 ⟨none,.mov 11 (.t 10)⟩,
 ⟨some (11,false),.fad 12 2 1⟩,
 ⟨some (11,false),.load 13 12 1 false⟩,
 ⟨some (11,false),.fad 14 3 1⟩,
 ⟨some (11,false),.load 15 14 1 false⟩,
 ⟨some (11,false),.bin 16 .neq (.t 13) (.t 15)⟩,
 ⟨none,.pick 17 (.t 11) (.k (.bool true)) (.t 16)⟩,
 ⟨none,.mov 18 (.t 17)⟩,
 ⟨some (18,false),.fad 19 2 2⟩,
 ⟨some (18,false),.load 20 19 1 false⟩,
 ⟨some (18,false),.len 21 (.t 20)⟩,
 ⟨some (18,false),.fad 22 3 2⟩,
 ⟨some (18,false),.load 23 22 1 false⟩,
 ⟨some (18,false),.len 24 (.t 23)⟩,
 ⟨some (18,false),.bin 25 .neq (.t 21) (.t 24)⟩,
 ⟨none,.pick 26 (.t 18) (.k (.bool true)) (.t 25)⟩])
 (.cond (.t 26)
 (.seq (.reg [⟨none,.mov 4 (.k (.bool false))⟩])
 (.ret))
 (.skip)))
 (.seq (.seq (.reg [⟨none,.mov 5 (.k (.int .i64 0))⟩])
 (.block 0 (.loop [2,3,5]
 r385L0)))
 (.seq (.reg [⟨none,.mov 4 (.k (.bool true))⟩])
 (.ret))))⟩
def tLStore:List (Nat×RF):=[(385,r385)]
def r144:RF:=
 ⟨1,[.tmp 2],
 .seq (.reg [⟨none,.mov 2 (.k (.bool false))⟩])
 (.seq (.reg [⟨none,.mov 3 (.t 0)⟩,
 ⟨none,.len 4 (.t 3)⟩,
 ⟨none,.bin 5 .gtr (.t 4) (.k (.int .i64 1048576))⟩,
 ⟨none,.mov 2 (.t 5)⟩])
 (.ret))⟩
def tLaws:List (Nat×RF):=[(144,r144)]
def r273:RF:=
 ⟨2,[.tmp 4],
 .seq (.reg [⟨none,.mov 4 (.k (.int .i64 0))⟩])
 (.seq (.reg [⟨none,.mov 7 (.t 0)⟩,
 ⟨none,.call (some 8) 276 [(.t 7)] false⟩,
 ⟨none,.mov 5 (.t 8)⟩])
 (.seq (.reg [⟨none,.mov 9 (.t 1)⟩,
 ⟨none,.call (some 10) 276 [(.t 9)] false⟩,
 ⟨none,.mov 6 (.t 10)⟩])
 (.seq (.seq (.reg [⟨none,.mov 11 (.t 5)⟩])
 (.cond (.t 11)
 (.seq (.seq (.reg [⟨none,.mov 12 (.t 6)⟩])
 (.cond (.t 12)
 (.seq (.reg [⟨none,.mov 4 (.k (.int .i64 0))⟩])
 (.ret))
 (.skip)))
 (.seq (.reg [⟨none,.mov 4 (.k (.int .i64 (-1)))⟩])
 (.ret)))
 (.skip)))
 (.seq (.seq (.reg [⟨none,.mov 13 (.t 6)⟩])
 (.cond (.t 13)
 (.seq (.reg [⟨none,.mov 4 (.k (.int .i64 1))⟩])
 (.ret))
 (.skip)))
 (.seq (.seq (.reg [⟨none,.mov 14 (.t 0)⟩,
 ⟨none,.mov 15 (.t 1)⟩,
 ⟨none,.bin 16 .lss (.t 14) (.t 15)⟩])
 (.cond (.t 16)
 (.seq (.reg [⟨none,.mov 4 (.k (.int .i64 (-1)))⟩])
 (.ret))
 (.skip)))
 (.seq (.seq (.reg [⟨none,.mov 17 (.t 0)⟩,
 ⟨none,.mov 18 (.t 1)⟩,
 ⟨none,.bin 19 .gtr (.t 17) (.t 18)⟩])
 (.cond (.t 19)
 (.seq (.reg [⟨none,.mov 4 (.k (.int .i64 1))⟩])
 (.ret))
 (.skip)))
 (.seq (.reg [⟨none,.mov 4 (.k (.int .i64 0))⟩])
 (.ret))))))))⟩
def WaV:List (Nat×RF):=[(273,r273)]
def r274:RF:=
 ⟨2,[.tmp 4],
 .seq (.reg [⟨none,.mov 4 (.k (.int .i64 0))⟩])
 (.seq (.reg [⟨none,.mov 7 (.t 0)⟩,
 ⟨none,.call (some 8) 277 [(.t 7)] false⟩,
 ⟨none,.mov 5 (.t 8)⟩])
 (.seq (.reg [⟨none,.mov 9 (.t 1)⟩,
 ⟨none,.call (some 10) 277 [(.t 9)] false⟩,
 ⟨none,.mov 6 (.t 10)⟩])
 (.seq (.seq (.reg [⟨none,.mov 11 (.t 5)⟩])
 (.cond (.t 11)
 (.seq (.seq (.reg [⟨none,.mov 12 (.t 6)⟩])
 (.cond (.t 12)
 (.seq (.reg [⟨none,.mov 4 (.k (.int .i64 0))⟩])
 (.ret))
 (.skip)))
 (.seq (.reg [⟨none,.mov 4 (.k (.int .i64 (-1)))⟩])
 (.ret)))
 (.skip)))
 (.seq (.seq (.reg [⟨none,.mov 13 (.t 6)⟩])
 (.cond (.t 13)
 (.seq (.reg [⟨none,.mov 4 (.k (.int .i64 1))⟩])
 (.ret))
 (.skip)))
 (.seq (.seq (.reg [⟨none,.mov 14 (.t 0)⟩,
 ⟨none,.mov 15 (.t 1)⟩,
 ⟨none,.bin 16 .lss (.t 14) (.t 15)⟩])
 (.cond (.t 16)
 (.seq (.reg [⟨none,.mov 4 (.k (.int .i64 (-1)))⟩])
 (.ret))
 (.skip)))
 (.seq (.seq (.reg [⟨none,.mov 17 (.t 0)⟩,
 ⟨none,.mov 18 (.t 1)⟩,
 ⟨none,.bin 19 .gtr (.t 17) (.t 18)⟩])
 (.cond (.t 19)
 (.seq (.reg [⟨none,.mov 4 (.k (.int .i64 1))⟩])
 (.ret))
 (.skip)))
 (.seq (.reg [⟨none,.mov 4 (.k (.int .i64 0))⟩])
 (.ret))))))))⟩
def WaH:List (Nat×RF):=[(274,r274)]
def r275L0:RC:=
 .seq (.reg [⟨none,.bin 9 .lss (.t 8) (.t 7)⟩])
 (.seq (.cond (.t 9)
 (.skip)
 (.exit 0))
 (.seq (.block 1 (.seq (.reg [⟨none,.idx 10 15 (.t 6) (.t 8)⟩,
 ⟨none,.load 11 10 1 false⟩,
 ⟨none,.mov 5 (.t 11)⟩])
 (.seq (.reg [⟨none,.mov 12 (.t 5)⟩,
 ⟨none,.mov 13 (.t 3)⟩,
 ⟨none,.bin 14 .neq (.t 12) (.t 13)⟩])
 (.cond (.t 14)
 (.seq (.reg [⟨none,.mov 15 (.t 5)⟩,
 ⟨none,.mov 2 (.t 15)⟩])
 (.ret))
 (.skip)))))
 (.reg [⟨none,.bin 16 .add (.t 8) (.k (.int .i64 1))⟩,
 ⟨none,.mov 8 (.t 16)⟩])))
def r275:RF:=
 ⟨1,[.tmp 2],
 .seq (.reg [⟨none,.mov 2 (.k (.int .i64 0))⟩])
 (.seq (.reg [⟨none,.mov 3 (.k (.int .i64 0))⟩])
 (.seq (.seq (.reg [⟨none,.mov 6 (.t 0)⟩,
 ⟨none,.len 7 (.t 6)⟩,
 ⟨none,.mov 8 (.k (.int .i64 0))⟩])
 (.block 0 (.loop [3,6,7,8]
 r275L0)))
 (.seq (.reg [⟨none,.mov 17 (.t 3)⟩,
 ⟨none,.mov 2 (.t 17)⟩])
 (.ret))))⟩
def WbE:List (Nat×RF):=[(275,r275)]
def r276:RF:=
 ⟨1,[.tmp 2],
 .seq (.reg [⟨none,.mov 2 (.k (.bool false))⟩])
 (.seq (.reg [⟨none,.mov 3 (.t 0)⟩,
 ⟨none,.mov 4 (.t 0)⟩,
 ⟨none,.bin 5 .neq (.t 3) (.t 4)⟩,
 ⟨none,.mov 2 (.t 5)⟩])
 (.ret))⟩
def Wbf:List (Nat×RF):=[(276,r276)]
def r277:RF:=
 ⟨1,[.tmp 2],
 .seq (.reg [⟨none,.mov 2 (.k (.bool false))⟩])
 (.seq (.reg [⟨none,.mov 3 (.t 0)⟩,
 ⟨none,.mov 4 (.t 0)⟩,
 ⟨none,.bin 5 .neq (.t 3) (.t 4)⟩,
 ⟨none,.mov 2 (.t 5)⟩])
 (.ret))⟩
def WaQ:List (Nat×RF):=[(277,r277)]
def r218:RF:=
 ⟨2,[.tmp 4],
 .seq (.reg [⟨none,.mov 4 (.k (.bool false))⟩])
 (.seq (.reg [⟨none,.mov 5 (.t 0)⟩,
 ⟨none,.mov 6 (.t 1)⟩,
 ⟨none,.call (some 7) 248 [(.t 5),(.t 6)] false⟩,
 ⟨none,.bin 8 .geq (.t 7) (.k (.int .i64 0))⟩,
 ⟨none,.mov 4 (.t 8)⟩])
 (.ret))⟩
def WaA:List (Nat×RF):=[(218,r218)]
def r251:RF:=
 ⟨2,[.tmp 4],
 .seq (.reg [⟨none,.mov 4 (.k (.bool false))⟩])
 (.seq (.reg [⟨none,.mov 5 (.t 0)⟩,
 ⟨none,.mov 6 (.t 1)⟩,
 ⟨none,.call (some 7) 268 [(.t 5),(.t 6)] false⟩,
 ⟨none,.bin 8 .geq (.t 7) (.k (.int .i64 0))⟩,
 ⟨none,.mov 4 (.t 8)⟩])
 (.ret))⟩
def Wao:List (Nat×RF):=[(251,r251)]
def r266:RF:=
 ⟨2,[.tmp 4],
 .seq (.reg [⟨none,.locb 3 (.t 1)⟩,
 ⟨none,.mov 4 (.k (.bool false))⟩])
 (.seq (.reg [⟨none,.mov 5 (.t 0)⟩,
 ⟨none,.load 6 3 2 true⟩,
 ⟨none,.call (some 7) 272 [(.t 5),(.t 6)] false⟩,
 ⟨none,.bin 8 .geq (.t 7) (.k (.int .i64 0))⟩,
 ⟨none,.mov 4 (.t 8)⟩])
 (.ret))⟩
def Wan:List (Nat×RF):=[(266,r266)]
def r248L0:RC:=
 .seq (.reg [⟨none,.bin 9 .lss (.t 8) (.t 7)⟩])
 (.seq (.cond (.t 9)
 (.skip)
 (.exit 0))
 (.seq (.block 1 (.seq (.reg [⟨none,.mov 10 (.t 8)⟩,
 ⟨none,.mov 5 (.t 10)⟩])
 (.seq (.reg [⟨none,.mov 11 (.t 1)⟩,
 ⟨none,.mov 12 (.t 0)⟩,
 ⟨none,.mov 13 (.t 5)⟩,
 ⟨none,.idx 14 16 (.t 12) (.t 13)⟩,
 ⟨none,.load 15 14 6 true⟩,
 ⟨none,.calv (some 16) (.t 11) [(.t 15)] false⟩])
 (.cond (.t 16)
 (.seq (.reg [⟨none,.mov 17 (.t 5)⟩,
 ⟨none,.mov 4 (.t 17)⟩])
 (.ret))
 (.skip)))))
 (.reg [⟨none,.bin 18 .add (.t 8) (.k (.int .i64 1))⟩,
 ⟨none,.mov 8 (.t 18)⟩])))
def r248:RF:=
 ⟨2,[.tmp 4],
 .seq (.reg [⟨none,.mov 4 (.k (.int .i64 0))⟩])
 (.seq (.seq (.reg [⟨none,.mov 6 (.t 0)⟩,
 ⟨none,.len 7 (.t 6)⟩,
 ⟨none,.mov 8 (.k (.int .i64 0))⟩])
 (.block 0 (.loop [0,1,7,8]
 r248L0)))
 (.seq (.reg [⟨none,.mov 4 (.k (.int .i64 (-1)))⟩])
 (.ret)))⟩
def Waa:List (Nat×RF):=[(248,r248)]
def r268L0:RC:=
 .seq (.reg [⟨none,.bin 9 .lss (.t 8) (.t 7)⟩])
 (.seq (.cond (.t 9)
 (.skip)
 (.exit 0))
 (.seq (.block 1 (.seq (.reg [⟨none,.mov 10 (.t 8)⟩,
 ⟨none,.mov 5 (.t 10)⟩])
 (.seq (.reg [⟨none,.mov 11 (.t 1)⟩,
 ⟨none,.mov 12 (.t 0)⟩,
 ⟨none,.mov 13 (.t 5)⟩,
 ⟨none,.idx 14 18 (.t 12) (.t 13)⟩,
 ⟨none,.load 15 14 3 true⟩,
 ⟨none,.calv (some 16) (.t 11) [(.t 15)] false⟩])
 (.cond (.t 16)
 (.seq (.reg [⟨none,.mov 17 (.t 5)⟩,
 ⟨none,.mov 4 (.t 17)⟩])
 (.ret))
 (.skip)))))
 (.reg [⟨none,.bin 18 .add (.t 8) (.k (.int .i64 1))⟩,
 ⟨none,.mov 8 (.t 18)⟩])))
def r268:RF:=
 ⟨2,[.tmp 4],
 .seq (.reg [⟨none,.mov 4 (.k (.int .i64 0))⟩])
 (.seq (.seq (.reg [⟨none,.mov 6 (.t 0)⟩,
 ⟨none,.len 7 (.t 6)⟩,
 ⟨none,.mov 8 (.k (.int .i64 0))⟩])
 (.block 0 (.loop [0,1,7,8]
 r268L0)))
 (.seq (.reg [⟨none,.mov 4 (.k (.int .i64 (-1)))⟩])
 (.ret)))⟩
def Waw:List (Nat×RF):=[(268,r268)]
def r272L0:RC:=
 .seq (.reg [⟨none,.bin 9 .lss (.t 8) (.t 7)⟩])
 (.seq (.cond (.t 9)
 (.skip)
 (.exit 0))
 (.seq (.block 1 (.seq (.reg [⟨none,.mov 10 (.t 8)⟩,
 ⟨none,.mov 5 (.t 10)⟩])
 (.seq (.reg [⟨none,.chk []⟩,
 ⟨none,.mov 12 (.t 0)⟩,
 ⟨none,.mov 13 (.t 5)⟩,
 ⟨none,.idx 14 9 (.t 12) (.t 13)⟩,
 ⟨none,.load 11 3 2 true⟩,
 ⟨none,.load 15 14 2 true⟩,
 ⟨none,.eqs 16 false [.i .i64,.i .u64] (.t 11) (.t 15)⟩])
 (.cond (.t 16)
 (.seq (.reg [⟨none,.mov 17 (.t 5)⟩,
 ⟨none,.mov 4 (.t 17)⟩])
 (.ret))
 (.skip)))))
 (.reg [⟨none,.bin 18 .add (.t 8) (.k (.int .i64 1))⟩,
 ⟨none,.mov 8 (.t 18)⟩])))
def r272:RF:=
 ⟨2,[.tmp 4],
 .seq (.reg [⟨none,.locb 3 (.t 1)⟩,
 ⟨none,.mov 4 (.k (.int .i64 0))⟩])
 (.seq (.seq (.reg [⟨none,.mov 6 (.t 0)⟩,
 ⟨none,.len 7 (.t 6)⟩,
 ⟨none,.mov 8 (.k (.int .i64 0))⟩])
 (.block 0 (.loop [0,3,7,8]
 r272L0)))
 (.seq (.reg [⟨none,.mov 4 (.k (.int .i64 (-1)))⟩])
 (.ret)))⟩
def Wam:List (Nat×RF):=[(272,r272)]
def r5:RF:=
 ⟨3,[.tmp 6],
 .seq (.reg [⟨none,.mov 6 (.k (.bool false))⟩])
 (.seq (.reg [⟨none,.mov 7 (.t 1)⟩,
 ⟨none,.mov 8 (.t 0)⟩,
 ⟨none,.bin 9 .leq (.t 7) (.t 8)⟩,
 ⟨none,.mov 10 (.t 9)⟩,
 ⟨some (10,true),.mov 11 (.t 0)⟩,
 ⟨some (10,true),.mov 12 (.t 2)⟩,
 ⟨some (10,true),.bin 13 .leq (.t 11) (.t 12)⟩,
 ⟨none,.pick 14 (.t 10) (.t 13) (.k (.bool false))⟩,
 ⟨none,.mov 6 (.t 14)⟩])
 (.ret))⟩
def r194L0:RC:=
 .seq (.seq (.reg [⟨none,.mov 8 (.t 4)⟩,
 ⟨none,.mov 9 (.t 0)⟩,
 ⟨none,.len 10 (.t 9)⟩,
 ⟨none,.bin 11 .lss (.t 8) (.t 10)⟩,
 ⟨none,.mov 12 (.t 11)⟩,
 ⟨some (12,true),.mov 13 (.t 4)⟩,
 ⟨some (12,true),.bin 14 .lss (.t 13) (.k (.int .i64 4000))⟩,
 ⟨none,.pick 15 (.t 12) (.t 14) (.k (.bool false))⟩])
 (.cond (.t 15)
 (.skip)
 (.exit 0)))
 (.seq (.block 1 (.reg [⟨none,.mov 18 (.t 3)⟩,
 ⟨none,.bin 19 .mul (.t 18) (.k (.int .i64 149))⟩,
 ⟨none,.mov 20 (.t 0)⟩,
 ⟨none,.mov 21 (.t 4)⟩,
 ⟨none,.idx 22 19 (.t 20) (.t 21)⟩,
 ⟨none,.load 23 22 1 false⟩,
 ⟨none,.conv 24 .i64 (.t 23)⟩,
 ⟨none,.bin 25 .add (.t 19) (.t 24)⟩,
 ⟨none,.bin 26 .add (.t 25) (.k (.int .i64 11))⟩,
 ⟨none,.bin 27 .and (.t 26) (.k (.int .i64 1073741823))⟩,
 ⟨none,.mov 3 (.t 27)⟩]))
 (.reg [⟨none,.mov 16 (.t 4)⟩,
 ⟨none,.bin 17 .add (.t 16) (.k (.int .i64 1))⟩,
 ⟨none,.mov 4 (.t 17)⟩]))
def r194:RF:=
 ⟨1,[.tmp 2],
 .seq (.reg [⟨none,.mov 2 (.k (.nilp))⟩])
 (.seq (.reg [⟨none,.mov 5 (.t 0)⟩,
 ⟨none,.len 6 (.t 5)⟩,
 ⟨none,.bin 7 .add (.k (.int .i64 138138)) (.t 6)⟩,
 ⟨none,.mov 3 (.t 7)⟩])
 (.seq (.seq (.reg [⟨none,.mov 4 (.k (.int .i64 0))⟩])
 (.block 0 (.loop [0,3,4]
 r194L0)))
 (.seq (.reg [⟨none,.mov 28 (.t 0)⟩,
 ⟨none,.mov 29 (.t 3)⟩,
 ⟨none,.build 30 [.nil,.int .i64 0,.int .i64 0] [(0,1,(.t 28)),(2,1,(.t 29))]⟩,
 ⟨none,.newb 31 (.t 30)⟩,
 ⟨none,.mov 2 (.t 31)⟩])
 (.ret))))⟩
def r236:RF:=
 ⟨2,[.tmp 4],
 .seq (.reg [⟨none,.mov 4 (.k (.int .i64 0))⟩])
 (.seq (.seq (.reg [⟨none,.mov 8 (.t 1)⟩,
 ⟨none,.bin 9 .leq (.t 8) (.k (.int .i64 0))⟩])
 (.cond (.t 9)
 (.seq (.reg [⟨none,.mov 4 (.k (.int .i64 0))⟩])
 (.ret))
 (.skip)))
 (.seq (.seq (.reg [⟨none,.mov 10 (.t 1)⟩,
 ⟨none,.bin 11 .leq (.t 10) (.k (.int .i64 256))⟩])
 (.cond (.t 11)
 (.seq (.reg [⟨none,.mov 12 (.t 0)⟩,
 ⟨none,.call (some 13) 263 [(.t 12)] false⟩,
 ⟨none,.mov 14 (.t 1)⟩,
 ⟨none,.bin 15 .rem (.t 13) (.t 14)⟩,
 ⟨none,.mov 4 (.t 15)⟩])
 (.ret))
 (.skip)))
 (.seq (.reg [⟨none,.mov 16 (.t 0)⟩,
 ⟨none,.call (some 17) 263 [(.t 16)] false⟩,
 ⟨none,.mov 5 (.t 17)⟩])
 (.seq (.reg [⟨none,.mov 18 (.t 0)⟩,
 ⟨none,.call (some 19) 263 [(.t 18)] false⟩,
 ⟨none,.mov 6 (.t 19)⟩])
 (.seq (.reg [⟨none,.mov 20 (.t 0)⟩,
 ⟨none,.call (some 21) 263 [(.t 20)] false⟩,
 ⟨none,.mov 7 (.t 21)⟩])
 (.seq (.reg [⟨none,.mov 22 (.t 5)⟩,
 ⟨none,.bin 23 .mul (.t 22) (.k (.int .i64 65536))⟩,
 ⟨none,.mov 24 (.t 6)⟩,
 ⟨none,.bin 25 .mul (.t 24) (.k (.int .i64 256))⟩,
 ⟨none,.bin 26 .add (.t 23) (.t 25)⟩,
 ⟨none,.mov 27 (.t 7)⟩,
 ⟨none,.bin 28 .add (.t 26) (.t 27)⟩,
 ⟨none,.mov 29 (.t 1)⟩,
 ⟨none,.bin 30 .rem (.t 28) (.t 29)⟩,
 ⟨none,.mov 4 (.t 30)⟩])
 (.ret)))))))⟩
def r238:RF:=
 ⟨2,[.tmp 4],
 .seq (.reg [⟨none,.mov 4 (.k (.int .i64 0))⟩])
 (.seq (.reg [⟨none,.mov 6 (.t 0)⟩,
 ⟨none,.len 7 (.t 6)⟩,
 ⟨none,.bin 8 .quo (.t 7) (.k (.int .i64 16))⟩,
 ⟨none,.bin 9 .add (.k (.int .i64 2)) (.t 8)⟩,
 ⟨none,.mov 5 (.t 9)⟩])
 (.seq (.seq (.reg [⟨none,.mov 10 (.t 5)⟩,
 ⟨none,.mov 11 (.t 1)⟩,
 ⟨none,.bin 12 .gtr (.t 10) (.t 11)⟩])
 (.cond (.t 12)
 (.seq (.reg [⟨none,.mov 13 (.t 1)⟩,
 ⟨none,.mov 4 (.t 13)⟩])
 (.ret))
 (.skip)))
 (.seq (.reg [⟨none,.mov 14 (.t 5)⟩,
 ⟨none,.mov 4 (.t 14)⟩])
 (.ret))))⟩
def r239:RF:=
 ⟨2,[.tmp 4],
 .seq (.reg [⟨none,.mov 4 (.k (.int .i64 0))⟩])
 (.seq (.reg [⟨none,.mov 5 (.t 1)⟩,
 ⟨none,.mov 6 (.t 0)⟩,
 ⟨none,.mov 7 (.t 1)⟩,
 ⟨none,.len 8 (.t 7)⟩,
 ⟨none,.call (some 9) 236 [(.t 6),(.t 8)] false⟩,
 ⟨none,.idx 10 15 (.t 5) (.t 9)⟩,
 ⟨none,.load 11 10 1 false⟩,
 ⟨none,.mov 4 (.t 11)⟩])
 (.ret))⟩
def r240:RF:=
 ⟨2,[.tmp 4],
 .seq (.reg [⟨none,.mov 4 (.k (.bool false))⟩])
 (.seq (.reg [⟨none,.mov 5 (.t 0)⟩,
 ⟨none,.mov 6 (.t 1)⟩,
 ⟨none,.call (some 7) 236 [(.t 5),(.t 6)] false⟩,
 ⟨none,.bin 8 .eql (.t 7) (.k (.int .i64 0))⟩,
 ⟨none,.mov 4 (.t 8)⟩])
 (.ret))⟩
def r263:RF:=
 ⟨1,[.tmp 2],
 .seq (.reg [⟨none,.mov 2 (.k (.int .i64 0))⟩])
 (.seq (.reg [⟨none,.mov 4 (.t 0)⟩,
 ⟨none,.mov 5 (.t 0)⟩,
 ⟨none,.nilc 6 (.t 5)⟩,
 ⟨none,.fad 7 6 2⟩,
 ⟨none,.load 8 7 1 false⟩,
 ⟨none,.bin 9 .mul (.t 8) (.k (.int .i64 6364136223846793005))⟩,
 ⟨none,.bin 10 .add (.t 9) (.k (.int .i64 1442695040888963407))⟩,
 ⟨none,.nilc 11 (.t 4)⟩,
 ⟨none,.fad 12 11 2⟩,
 ⟨none,.store 12 1 (.t 10)⟩])
 (.seq (.reg [⟨none,.chk []⟩,
 ⟨none,.mov 13 (.t 0)⟩,
 ⟨none,.nilc 14 (.t 13)⟩,
 ⟨none,.mov 18 (.t 0)⟩,
 ⟨none,.nilc 19 (.t 18)⟩,
 ⟨none,.fad 15 14 2⟩,
 ⟨none,.load 16 15 1 false⟩,
 ⟨none,.bin 17 .shr (.t 16) (.k (.int .u64 33))⟩,
 ⟨none,.fad 20 19 2⟩,
 ⟨none,.load 21 20 1 false⟩,
 ⟨none,.bin 22 .shr (.t 21) (.k (.int .u64 45))⟩,
 ⟨none,.bin 23 .xor (.t 17) (.t 22)⟩,
 ⟨none,.bin 24 .and (.t 23) (.k (.int .i64 255))⟩,
 ⟨none,.mov 3 (.t 24)⟩])
 (.seq (.seq (.reg [⟨none,.chk []⟩,
 ⟨none,.mov 25 (.t 0)⟩,
 ⟨none,.nilc 26 (.t 25)⟩,
 ⟨none,.mov 29 (.t 0)⟩,
 ⟨none,.nilc 30 (.t 29)⟩,
 ⟨none,.fad 27 26 1⟩,
 ⟨none,.load 28 27 1 false⟩,
 ⟨none,.fad 31 30 0⟩,
 ⟨none,.load 32 31 1 false⟩,
 ⟨none,.len 33 (.t 32)⟩,
 ⟨none,.bin 34 .lss (.t 28) (.t 33)⟩])
 (.cond (.t 34)
 (.seq (.reg [⟨none,.chk []⟩,
 ⟨none,.mov 35 (.t 3)⟩,
 ⟨none,.mov 36 (.t 0)⟩,
 ⟨none,.nilc 37 (.t 36)⟩,
 ⟨none,.mov 40 (.t 0)⟩,
 ⟨none,.nilc 41 (.t 40)⟩,
 ⟨none,.fad 38 37 0⟩,
 ⟨none,.load 39 38 1 false⟩,
 ⟨none,.fad 42 41 1⟩,
 ⟨none,.load 43 42 1 false⟩,
 ⟨none,.idx 44 19 (.t 39) (.t 43)⟩,
 ⟨none,.load 45 44 1 false⟩,
 ⟨none,.conv 46 .i64 (.t 45)⟩,
 ⟨none,.bin 47 .add (.t 35) (.t 46)⟩,
 ⟨none,.bin 48 .and (.t 47) (.k (.int .i64 255))⟩,
 ⟨none,.mov 3 (.t 48)⟩])
 (.reg [⟨none,.mov 49 (.t 0)⟩,
 ⟨none,.mov 50 (.t 0)⟩,
 ⟨none,.nilc 51 (.t 50)⟩,
 ⟨none,.fad 52 51 1⟩,
 ⟨none,.load 53 52 1 false⟩,
 ⟨none,.bin 54 .add (.t 53) (.k (.int .i64 1))⟩,
 ⟨none,.nilc 55 (.t 49)⟩,
 ⟨none,.fad 56 55 1⟩,
 ⟨none,.store 56 1 (.t 54)⟩]))
 (.skip)))
 (.seq (.reg [⟨none,.mov 57 (.t 3)⟩,
 ⟨none,.mov 2 (.t 57)⟩])
 (.ret)))))⟩
def r264L0:RC:=
 .seq (.seq (.reg [⟨none,.mov 28 (.t 4)⟩,
 ⟨none,.bin 29 .lss (.t 28) (.k (.int .i64 8))⟩])
 (.cond (.t 29)
 (.skip)
 (.exit 1)))
 (.seq (.block 2 (.reg [⟨none,.mov 32 (.t 3)⟩,
 ⟨none,.bin 33 .mul (.t 32) (.k (.int .u64 256))⟩,
 ⟨none,.mov 34 (.t 0)⟩,
 ⟨none,.call (some 35) 236 [(.t 34),(.k (.int .i64 256))] false⟩,
 ⟨none,.conv 36 .u64 (.t 35)⟩,
 ⟨none,.bin 37 .add (.t 33) (.t 36)⟩,
 ⟨none,.mov 3 (.t 37)⟩]))
 (.reg [⟨none,.mov 30 (.t 4)⟩,
 ⟨none,.bin 31 .add (.t 30) (.k (.int .i64 1))⟩,
 ⟨none,.mov 4 (.t 31)⟩]))
def r264:RF:=
 ⟨1,[.tmp 2],
 .seq (.reg [⟨none,.mov 2 (.k (.int .u64 0))⟩])
 (.seq (.reg [⟨none,.mov 3 (.k (.int .u64 0))⟩])
 (.seq (.seq (.reg [⟨none,.mov 5 (.t 0)⟩,
 ⟨none,.call (some 6) 236 [(.t 5),(.k (.int .i64 8))] false⟩])
 (.block 0 (.seq (.reg [⟨none,.bin 8 .eql (.t 6) (.k (.int .i64 0))⟩,
 ⟨none,.mov 7 (.t 8)⟩])
 (.cond (.t 7)
 (.seq (.reg [⟨none,.mov 2 (.k (.int .u64 0))⟩])
 (.ret))
 (.seq (.reg [⟨none,.bin 10 .eql (.t 6) (.k (.int .i64 1))⟩,
 ⟨none,.mov 9 (.t 10)⟩])
 (.cond (.t 9)
 (.seq (.reg [⟨none,.mov 2 (.k (.int .u64 18446744073709551615))⟩])
 (.ret))
 (.seq (.reg [⟨none,.bin 12 .eql (.t 6) (.k (.int .i64 2))⟩,
 ⟨none,.mov 11 (.t 12)⟩])
 (.cond (.t 11)
 (.seq (.reg [⟨none,.mov 13 (.t 0)⟩,
 ⟨none,.call (some 14) 236 [(.t 13),(.k (.int .i64 300))] false⟩,
 ⟨none,.conv 15 .u64 (.t 14)⟩,
 ⟨none,.mov 2 (.t 15)⟩])
 (.ret))
 (.seq (.reg [⟨none,.bin 17 .eql (.t 6) (.k (.int .i64 3))⟩,
 ⟨none,.mov 16 (.t 17)⟩])
 (.cond (.t 16)
 (.seq (.reg [⟨none,.mov 18 (.t 0)⟩,
 ⟨none,.call (some 19) 236 [(.t 18),(.k (.int .i64 300))] false⟩,
 ⟨none,.conv 20 .u64 (.t 19)⟩,
 ⟨none,.bin 21 .sub (.k (.int .u64 18446744073709551615)) (.t 20)⟩,
 ⟨none,.mov 2 (.t 21)⟩])
 (.ret))
 (.seq (.reg [⟨none,.bin 23 .eql (.t 6) (.k (.int .i64 4))⟩,
 ⟨none,.mov 22 (.t 23)⟩])
 (.cond (.t 22)
 (.seq (.reg [⟨none,.mov 24 (.t 0)⟩,
 ⟨none,.call (some 25) 236 [(.t 24),(.k (.int .i64 64))] false⟩,
 ⟨none,.conv 26 .u64 (.t 25)⟩,
 ⟨none,.bin 27 .shl (.k (.int .u64 1)) (.t 26)⟩,
 ⟨none,.mov 2 (.t 27)⟩])
 (.ret))
 (.skip)))))))))))))
 (.seq (.seq (.reg [⟨none,.mov 4 (.k (.int .i64 0))⟩])
 (.block 1 (.loop [0,3,4]
 r264L0)))
 (.seq (.reg [⟨none,.mov 38 (.t 3)⟩,
 ⟨none,.mov 39 (.t 0)⟩,
 ⟨none,.call (some 40) 236 [(.t 39),(.k (.int .i64 64))] false⟩,
 ⟨none,.conv 41 .u64 (.t 40)⟩,
 ⟨none,.bin 42 .shr (.t 38) (.t 41)⟩,
 ⟨none,.mov 2 (.t 42)⟩])
 (.ret)))))⟩
def tS01d:List (Nat×RF):=[(5,r5),(194,r194),(236,r236),(238,r238),(239,r239),(240,r240),(263,r263),(264,r264)]
def r235:RF:=
 ⟨1,[.tmp 2],
 .seq (.reg [⟨none,.mov 2 (.k (.int .u64 0))⟩])
 (.seq (.reg [⟨none,.lit 3 13 8 [.int .u64 0] [(0,(.k (.int .u64 0))),(1,(.k (.int .u64 1))),(2,(.k (.int .u64 2))),(3,(.k (.int .u64 5))),(4,(.k (.int .u64 9))),(5,(.k (.int .u64 100))),(6,(.k (.int .u64 9223372036854775808))),(7,(.k (.int .u64 18446744073709551615)))]⟩,
 ⟨none,.mov 4 (.t 0)⟩,
 ⟨none,.call (some 5) 236 [(.t 4),(.k (.int .i64 8))] false⟩,
 ⟨none,.idx 6 13 (.t 3) (.t 5)⟩,
 ⟨none,.load 7 6 1 false⟩,
 ⟨none,.mov 2 (.t 7)⟩])
 (.ret))⟩
def r237:RF:=
 ⟨1,[.tmp 2],
 .seq (.reg [⟨none,.mov 2 (.k (.int .u64 0))⟩])
 (.seq (.seq (.reg [⟨none,.mov 3 (.t 0)⟩,
 ⟨none,.call (some 4) 240 [(.t 3),(.k (.int .i64 5))] false⟩])
 (.cond (.t 4)
 (.seq (.reg [⟨none,.mov 5 (.t 0)⟩,
 ⟨none,.call (some 6) 264 [(.t 5)] false⟩,
 ⟨none,.mov 2 (.t 6)⟩])
 (.ret))
 (.skip)))
 (.seq (.reg [⟨none,.mov 7 (.t 0)⟩,
 ⟨none,.call (some 8) 236 [(.t 7),(.k (.int .i64 60))] false⟩,
 ⟨none,.conv 9 .u64 (.t 8)⟩,
 ⟨none,.mov 2 (.t 9)⟩])
 (.ret)))⟩
def r241L0:RC:=
 .seq (.seq (.reg [⟨none,.mov 9 (.t 3)⟩,
 ⟨none,.fad 10 1 0⟩,
 ⟨none,.load 11 10 1 false⟩,
 ⟨none,.len 12 (.t 11)⟩,
 ⟨none,.bin 13 .lss (.t 9) (.t 12)⟩])
 (.cond (.t 13)
 (.skip)
 (.exit 0)))
 (.seq (.block 1 (.seq (.reg [⟨none,.fad 16 1 0⟩,
 ⟨none,.load 17 16 1 false⟩,
 ⟨none,.mov 18 (.t 3)⟩,
 ⟨none,.idx 19 11 (.t 17) (.t 18)⟩,
 ⟨none,.load 20 19 5 true⟩,
 ⟨none,.loc 4 [.int .u64 0,.int .u64 0,.int .u64 0,.int .u64 0,.int .i64 0]⟩,
 ⟨none,.store 4 5 (.t 20)⟩])
 (.seq (.seq (.reg [⟨none,.chk []⟩,
 ⟨none,.mov 21 (.t 3)⟩,
 ⟨none,.bin 22 .gtr (.t 21) (.k (.int .i64 0))⟩,
 ⟨none,.mov 23 (.t 22)⟩,
 ⟨some (23,true),.mov 26 (.t 3)⟩,
 ⟨some (23,true),.bin 27 .sub (.t 26) (.k (.int .i64 1))⟩,
 ⟨some (23,true),.fad 24 1 0⟩,
 ⟨some (23,true),.load 25 24 1 false⟩,
 ⟨some (23,true),.idx 28 11 (.t 25) (.t 27)⟩,
 ⟨some (23,true),.fad 29 28 0⟩,
 ⟨some (23,true),.load 30 29 1 false⟩,
 ⟨some (23,true),.fad 31 4 0⟩,
 ⟨some (23,true),.load 32 31 1 false⟩,
 ⟨some (23,true),.bin 33 .geq (.t 30) (.t 32)⟩,
 ⟨none,.pick 34 (.t 23) (.t 33) (.k (.bool false))⟩,
 ⟨none,.mov 35 (.t 34)⟩,
 ⟨some (35,false),.fad 36 4 4⟩,
 ⟨some (35,false),.load 37 36 1 false⟩,
 ⟨some (35,false),.bin 38 .lss (.t 37) (.k (.int .i64 0))⟩,
 ⟨none,.pick 39 (.t 35) (.k (.bool true)) (.t 38)⟩,
 ⟨none,.mov 40 (.t 39)⟩,
 ⟨some (40,false),.fad 41 4 4⟩,
 ⟨some (40,false),.load 42 41 1 false⟩,
 ⟨some (40,false),.bin 43 .eql (.t 42) (.k (.int .i64 0))⟩,
 ⟨some (40,false),.mov 44 (.t 43)⟩,
 ⟨some (44,true),.fad 45 4 2⟩,
 ⟨some (44,true),.load 46 45 1 false⟩,
 ⟨some (44,true),.bin 47 .neq (.t 46) (.k (.int .u64 0))⟩,
 ⟨some (44,true),.mov 48 (.t 47)⟩,
 ⟨some (48,false),.fad 49 4 3⟩,
 ⟨some (48,false),.load 50 49 1 false⟩,
 ⟨some (48,false),.bin 51 .neq (.t 50) (.k (.int .u64 0))⟩,
 ⟨some (44,true),.pick 52 (.t 48) (.k (.bool true)) (.t 51)⟩,
 ⟨some (40,false),.pick 53 (.t 44) (.t 52) (.k (.bool false))⟩,
 ⟨none,.pick 54 (.t 40) (.k (.bool true)) (.t 53)⟩])
 (.cond (.t 54)
 (.seq (.reg [⟨none,.mov 2 (.k (.bool false))⟩])
 (.ret))
 (.skip)))
 (.seq (.reg [⟨none,.fad 55 4 2⟩,
 ⟨none,.load 56 55 1 false⟩,
 ⟨none,.fad 57 4 1⟩,
 ⟨none,.load 58 57 1 false⟩,
 ⟨none,.bin 59 .sub (.k (.int .u64 18446744073709551615)) (.t 58)⟩,
 ⟨none,.bin 60 .gtr (.t 56) (.t 59)⟩,
 ⟨none,.mov 61 (.t 60)⟩,
 ⟨some (61,false),.fad 62 4 3⟩,
 ⟨some (61,false),.load 63 62 1 false⟩,
 ⟨some (61,false),.fad 64 4 1⟩,
 ⟨some (61,false),.load 65 64 1 false⟩,
 ⟨some (61,false),.bin 66 .sub (.k (.int .u64 18446744073709551615)) (.t 65)⟩,
 ⟨some (61,false),.fad 67 4 2⟩,
 ⟨some (61,false),.load 68 67 1 false⟩,
 ⟨some (61,false),.bin 69 .sub (.t 66) (.t 68)⟩,
 ⟨some (61,false),.bin 70 .gtr (.t 63) (.t 69)⟩,
 ⟨none,.pick 71 (.t 61) (.k (.bool true)) (.t 70)⟩])
 (.cond (.t 71)
 (.seq (.reg [⟨none,.mov 2 (.k (.bool false))⟩])
 (.ret))
 (.skip))))))
 (.reg [⟨none,.mov 14 (.t 3)⟩,
 ⟨none,.bin 15 .add (.t 14) (.k (.int .i64 1))⟩,
 ⟨none,.mov 3 (.t 15)⟩]))
def r241:RF:=
 ⟨1,[.tmp 2],
 .seq (.reg [⟨none,.locb 1 (.t 0)⟩,
 ⟨none,.mov 2 (.k (.bool false))⟩])
 (.seq (.seq (.reg [⟨none,.fad 5 1 0⟩,
 ⟨none,.load 6 5 1 false⟩,
 ⟨none,.len 7 (.t 6)⟩,
 ⟨none,.bin 8 .gtr (.t 7) (.k (.int .i64 40))⟩])
 (.cond (.t 8)
 (.seq (.reg [⟨none,.mov 2 (.k (.bool false))⟩])
 (.ret))
 (.skip)))
 (.seq (.seq (.reg [⟨none,.mov 3 (.k (.int .i64 0))⟩])
 (.block 0 (.loop [1,3]
 r241L0)))
 (.seq (.reg [⟨none,.mov 2 (.k (.bool true))⟩])
 (.ret))))⟩
def r259L0:RC:=
 .seq (.seq (.reg [⟨none,.mov 6 (.t 4)⟩,
 ⟨none,.fad 7 1 0⟩,
 ⟨none,.load 8 7 1 false⟩,
 ⟨none,.len 9 (.t 8)⟩,
 ⟨none,.bin 10 .lss (.t 6) (.t 9)⟩])
 (.cond (.t 10)
 (.skip)
 (.exit 0)))
 (.seq (.block 1 (.reg [⟨none,.chk []⟩,
 ⟨none,.mov 17 (.t 4)⟩,
 ⟨none,.fad 13 3 0⟩,
 ⟨none,.load 14 13 1 false⟩,
 ⟨none,.fad 15 1 0⟩,
 ⟨none,.load 16 15 1 false⟩,
 ⟨none,.idx 18 11 (.t 16) (.t 17)⟩,
 ⟨none,.load 19 18 5 true⟩,
 ⟨none,.lit 20 11 1 [.int .u64 0,.int .u64 0,.int .u64 0,.int .u64 0,.int .i64 0] [(0,(.t 19))]⟩,
 ⟨none,.app 21 11 40 (.t 14) (.t 20)⟩,
 ⟨none,.fad 22 3 0⟩,
 ⟨none,.store 22 1 (.t 21)⟩]))
 (.reg [⟨none,.mov 11 (.t 4)⟩,
 ⟨none,.bin 12 .add (.t 11) (.k (.int .i64 1))⟩,
 ⟨none,.mov 4 (.t 12)⟩]))
def r259:RF:=
 ⟨1,[.cell 2 1 true],
 .seq (.reg [⟨none,.locb 1 (.t 0)⟩,
 ⟨none,.loc 2 [.nil]⟩])
 (.seq (.reg [⟨none,.build 5 [.nil] []⟩,
 ⟨none,.loc 3 [.nil]⟩,
 ⟨none,.store 3 1 (.t 5)⟩])
 (.seq (.seq (.reg [⟨none,.mov 4 (.k (.int .i64 0))⟩])
 (.block 0 (.loop [1,2,3,4]
 r259L0)))
 (.seq (.reg [⟨none,.load 23 3 1 true⟩,
 ⟨none,.store 2 1 (.t 23)⟩])
 (.ret))))⟩
def r323L0:RC:=
 .seq (.seq (.reg [⟨none,.mov 27 (.t 8)⟩,
 ⟨none,.fad 28 2 0⟩,
 ⟨none,.load 29 28 1 false⟩,
 ⟨none,.len 30 (.t 29)⟩,
 ⟨none,.bin 31 .lss (.t 27) (.t 30)⟩])
 (.cond (.t 31)
 (.skip)
 (.exit 0)))
 (.seq (.block 1 (.seq (.seq (.reg [⟨none,.mov 34 (.t 7)⟩,
 ⟨none,.not 35 (.t 34)⟩,
 ⟨none,.mov 36 (.t 35)⟩,
 ⟨some (36,true),.fad 37 2 0⟩,
 ⟨some (36,true),.load 38 37 1 false⟩,
 ⟨some (36,true),.mov 39 (.t 8)⟩,
 ⟨some (36,true),.idx 40 11 (.t 38) (.t 39)⟩,
 ⟨some (36,true),.fad 41 40 0⟩,
 ⟨some (36,true),.load 42 41 1 false⟩,
 ⟨some (36,true),.mov 43 (.t 1)⟩,
 ⟨some (36,true),.bin 44 .gtr (.t 42) (.t 43)⟩,
 ⟨none,.pick 45 (.t 36) (.t 44) (.k (.bool false))⟩])
 (.cond (.t 45)
 (.seq (.reg [⟨none,.fad 46 6 0⟩,
 ⟨none,.load 47 46 1 false⟩,
 ⟨none,.mov 48 (.t 1)⟩,
 ⟨none,.build 49 [.int .u64 0,.int .u64 0,.int .u64 0,.int .u64 0,.int .i64 0] [(0,1,(.t 48))]⟩,
 ⟨none,.lit 50 11 1 [.int .u64 0,.int .u64 0,.int .u64 0,.int .u64 0,.int .i64 0] [(0,(.t 49))]⟩,
 ⟨none,.app 51 11 40 (.t 47) (.t 50)⟩,
 ⟨none,.fad 52 6 0⟩,
 ⟨none,.store 52 1 (.t 51)⟩])
 (.reg [⟨none,.mov 7 (.k (.bool true))⟩]))
 (.skip)))
 (.reg [⟨none,.chk []⟩,
 ⟨none,.mov 57 (.t 8)⟩,
 ⟨none,.fad 53 6 0⟩,
 ⟨none,.load 54 53 1 false⟩,
 ⟨none,.fad 55 2 0⟩,
 ⟨none,.load 56 55 1 false⟩,
 ⟨none,.idx 58 11 (.t 56) (.t 57)⟩,
 ⟨none,.load 59 58 5 true⟩,
 ⟨none,.lit 60 11 1 [.int .u64 0,.int .u64 0,.int .u64 0,.int .u64 0,.int .i64 0] [(0,(.t 59))]⟩,
 ⟨none,.app 61 11 40 (.t 54) (.t 60)⟩,
 ⟨none,.fad 62 6 0⟩,
 ⟨none,.store 62 1 (.t 61)⟩])))
 (.reg [⟨none,.mov 32 (.t 8)⟩,
 ⟨none,.bin 33 .add (.t 32) (.k (.int .i64 1))⟩,
 ⟨none,.mov 8 (.t 33)⟩]))
def r323:RF:=
 ⟨2,[.cell 4 1 true,.tmp 5],
 .seq (.reg [⟨none,.locb 2 (.t 0)⟩,
 ⟨none,.loc 4 [.nil]⟩,
 ⟨none,.mov 5 (.k (.int .i64 0))⟩])
 (.seq (.seq (.reg [⟨none,.load 9 2 1 true⟩,
 ⟨none,.call (some 10) 241 [(.t 9)] false⟩,
 ⟨none,.not 11 (.t 10)⟩])
 (.cond (.t 11)
 (.seq (.reg [⟨none,.load 12 2 1 true⟩,
 ⟨none,.call (some 13) 259 [(.t 12)] false⟩,
 ⟨none,.store 4 1 (.t 13)⟩,
 ⟨none,.mov 5 (.k (.int .i64 1))⟩])
 (.ret))
 (.skip)))
 (.seq (.seq (.reg [⟨none,.load 14 2 1 true⟩,
 ⟨none,.mov 15 (.t 1)⟩,
 ⟨none,.call (some 16) 328 [(.t 14),(.t 15)] false⟩,
 ⟨none,.bin 17 .geq (.t 16) (.k (.int .i64 0))⟩])
 (.cond (.t 17)
 (.seq (.reg [⟨none,.load 18 2 1 true⟩,
 ⟨none,.call (some 19) 259 [(.t 18)] false⟩,
 ⟨none,.store 4 1 (.t 19)⟩,
 ⟨none,.mov 5 (.k (.int .i64 3))⟩])
 (.ret))
 (.skip)))
 (.seq (.seq (.reg [⟨none,.fad 20 2 0⟩,
 ⟨none,.load 21 20 1 false⟩,
 ⟨none,.len 22 (.t 21)⟩,
 ⟨none,.bin 23 .eql (.t 22) (.k (.int .i64 40))⟩])
 (.cond (.t 23)
 (.seq (.reg [⟨none,.load 24 2 1 true⟩,
 ⟨none,.call (some 25) 259 [(.t 24)] false⟩,
 ⟨none,.store 4 1 (.t 25)⟩,
 ⟨none,.mov 5 (.k (.int .i64 1))⟩])
 (.ret))
 (.skip)))
 (.seq (.reg [⟨none,.build 26 [.nil] []⟩,
 ⟨none,.loc 6 [.nil]⟩,
 ⟨none,.store 6 1 (.t 26)⟩])
 (.seq (.reg [⟨none,.mov 7 (.k (.bool false))⟩])
 (.seq (.seq (.reg [⟨none,.mov 8 (.k (.int .i64 0))⟩])
 (.block 0 (.loop [1,2,4,6,7,8]
 r323L0)))
 (.seq (.seq (.reg [⟨none,.mov 63 (.t 7)⟩,
 ⟨none,.not 64 (.t 63)⟩])
 (.cond (.t 64)
 (.reg [⟨none,.fad 65 6 0⟩,
 ⟨none,.load 66 65 1 false⟩,
 ⟨none,.mov 67 (.t 1)⟩,
 ⟨none,.build 68 [.int .u64 0,.int .u64 0,.int .u64 0,.int .u64 0,.int .i64 0] [(0,1,(.t 67))]⟩,
 ⟨none,.lit 69 11 1 [.int .u64 0,.int .u64 0,.int .u64 0,.int .u64 0,.int .i64 0] [(0,(.t 68))]⟩,
 ⟨none,.app 70 11 40 (.t 66) (.t 69)⟩,
 ⟨none,.fad 71 6 0⟩,
 ⟨none,.store 71 1 (.t 70)⟩])
 (.skip)))
 (.seq (.reg [⟨none,.load 72 6 1 true⟩,
 ⟨none,.store 4 1 (.t 72)⟩,
 ⟨none,.mov 5 (.k (.int .i64 0))⟩])
 (.ret)))))))))⟩
def r324L0:RC:=
 .seq (.seq (.reg [⟨none,.mov 35 (.t 9)⟩,
 ⟨none,.fad 36 2 0⟩,
 ⟨none,.load 37 36 1 false⟩,
 ⟨none,.len 38 (.t 37)⟩,
 ⟨none,.bin 39 .lss (.t 35) (.t 38)⟩])
 (.cond (.t 39)
 (.skip)
 (.exit 1)))
 (.seq (.block 2 (.seq (.reg [⟨none,.fad 42 2 0⟩,
 ⟨none,.load 43 42 1 false⟩,
 ⟨none,.mov 44 (.t 9)⟩,
 ⟨none,.idx 45 11 (.t 43) (.t 44)⟩,
 ⟨none,.fad 46 45 0⟩,
 ⟨none,.load 47 46 1 false⟩,
 ⟨none,.mov 48 (.t 1)⟩,
 ⟨none,.bin 49 .neq (.t 47) (.t 48)⟩])
 (.cond (.t 49)
 (.reg [⟨none,.chk []⟩,
 ⟨none,.mov 54 (.t 9)⟩,
 ⟨none,.fad 50 8 0⟩,
 ⟨none,.load 51 50 1 false⟩,
 ⟨none,.fad 52 2 0⟩,
 ⟨none,.load 53 52 1 false⟩,
 ⟨none,.idx 55 11 (.t 53) (.t 54)⟩,
 ⟨none,.load 56 55 5 true⟩,
 ⟨none,.lit 57 11 1 [.int .u64 0,.int .u64 0,.int .u64 0,.int .u64 0,.int .i64 0] [(0,(.t 56))]⟩,
 ⟨none,.app 58 11 40 (.t 51) (.t 57)⟩,
 ⟨none,.fad 59 8 0⟩,
 ⟨none,.store 59 1 (.t 58)⟩])
 (.skip))))
 (.reg [⟨none,.mov 40 (.t 9)⟩,
 ⟨none,.bin 41 .add (.t 40) (.k (.int .i64 1))⟩,
 ⟨none,.mov 9 (.t 41)⟩]))
def r324:RF:=
 ⟨2,[.cell 4 1 true,.tmp 5],
 .seq (.reg [⟨none,.locb 2 (.t 0)⟩,
 ⟨none,.loc 4 [.nil]⟩,
 ⟨none,.mov 5 (.k (.int .i64 0))⟩])
 (.seq (.reg [⟨none,.load 11 2 1 true⟩,
 ⟨none,.mov 12 (.t 1)⟩,
 ⟨none,.call (some 13) 335 [(.t 11),(.t 12),(.k (.int .i64 1))] false⟩,
 ⟨none,.mov 10 (.t 13)⟩,
 ⟨none,.ext 14 (.t 10) 0⟩,
 ⟨none,.ext 15 (.t 10) 1⟩,
 ⟨none,.loc 6 [.int .u64 0,.int .u64 0,.int .u64 0,.int .u64 0,.int .i64 0]⟩,
 ⟨none,.store 6 5 (.t 14)⟩,
 ⟨none,.mov 7 (.t 15)⟩])
 (.seq (.block 0 (.seq (.reg [⟨none,.mov 17 (.t 7)⟩,
 ⟨none,.bin 18 .neq (.t 17) (.k (.int .i64 0))⟩,
 ⟨none,.mov 16 (.t 18)⟩])
 (.cond (.t 16)
 (.seq (.reg [⟨none,.load 19 2 1 true⟩,
 ⟨none,.call (some 20) 259 [(.t 19)] false⟩,
 ⟨none,.mov 21 (.t 7)⟩,
 ⟨none,.store 4 1 (.t 20)⟩,
 ⟨none,.mov 5 (.t 21)⟩])
 (.ret))
 (.seq (.reg [⟨none,.fad 23 6 4⟩,
 ⟨none,.load 24 23 1 false⟩,
 ⟨none,.bin 25 .neq (.t 24) (.k (.int .i64 0))⟩,
 ⟨none,.mov 22 (.t 25)⟩])
 (.cond (.t 22)
 (.seq (.reg [⟨none,.load 26 2 1 true⟩,
 ⟨none,.call (some 27) 259 [(.t 26)] false⟩,
 ⟨none,.store 4 1 (.t 27)⟩,
 ⟨none,.mov 5 (.k (.int .i64 6))⟩])
 (.ret))
 (.seq (.reg [⟨none,.fad 29 6 1⟩,
 ⟨none,.load 30 29 1 false⟩,
 ⟨none,.bin 31 .neq (.t 30) (.k (.int .u64 0))⟩,
 ⟨none,.mov 28 (.t 31)⟩])
 (.cond (.t 28)
 (.seq (.reg [⟨none,.load 32 2 1 true⟩,
 ⟨none,.call (some 33) 259 [(.t 32)] false⟩,
 ⟨none,.store 4 1 (.t 33)⟩,
 ⟨none,.mov 5 (.k (.int .i64 4))⟩])
 (.ret))
 (.skip))))))))
 (.seq (.reg [⟨none,.build 34 [.nil] []⟩,
 ⟨none,.loc 8 [.nil]⟩,
 ⟨none,.store 8 1 (.t 34)⟩])
 (.seq (.seq (.reg [⟨none,.mov 9 (.k (.int .i64 0))⟩])
 (.block 1 (.loop [1,2,4,8,9]
 r324L0)))
 (.seq (.reg [⟨none,.load 60 8 1 true⟩,
 ⟨none,.store 4 1 (.t 60)⟩,
 ⟨none,.mov 5 (.k (.int .i64 0))⟩])
 (.ret))))))⟩
def r325:RF:=
 ⟨3,[.cell 6 1 true,.tmp 7],
 .seq (.reg [⟨none,.locb 3 (.t 0)⟩,
 ⟨none,.loc 6 [.nil]⟩,
 ⟨none,.mov 7 (.k (.int .i64 0))⟩])
 (.seq (.reg [⟨none,.load 11 3 1 true⟩,
 ⟨none,.mov 12 (.t 1)⟩,
 ⟨none,.call (some 13) 335 [(.t 11),(.t 12),(.k (.int .i64 1))] false⟩,
 ⟨none,.mov 10 (.t 13)⟩,
 ⟨none,.ext 14 (.t 10) 0⟩,
 ⟨none,.ext 15 (.t 10) 1⟩,
 ⟨none,.loc 8 [.int .u64 0,.int .u64 0,.int .u64 0,.int .u64 0,.int .i64 0]⟩,
 ⟨none,.store 8 5 (.t 14)⟩,
 ⟨none,.mov 9 (.t 15)⟩])
 (.seq (.block 0 (.seq (.reg [⟨none,.mov 17 (.t 9)⟩,
 ⟨none,.bin 18 .neq (.t 17) (.k (.int .i64 0))⟩,
 ⟨none,.mov 16 (.t 18)⟩])
 (.cond (.t 16)
 (.seq (.reg [⟨none,.load 19 3 1 true⟩,
 ⟨none,.call (some 20) 259 [(.t 19)] false⟩,
 ⟨none,.mov 21 (.t 9)⟩,
 ⟨none,.store 6 1 (.t 20)⟩,
 ⟨none,.mov 7 (.t 21)⟩])
 (.ret))
 (.seq (.reg [⟨none,.fad 23 8 4⟩,
 ⟨none,.load 24 23 1 false⟩,
 ⟨none,.bin 25 .neq (.t 24) (.k (.int .i64 0))⟩,
 ⟨none,.mov 22 (.t 25)⟩])
 (.cond (.t 22)
 (.seq (.reg [⟨none,.load 26 3 1 true⟩,
 ⟨none,.call (some 27) 259 [(.t 26)] false⟩,
 ⟨none,.store 6 1 (.t 27)⟩,
 ⟨none,.mov 7 (.k (.int .i64 6))⟩])
 (.ret))
 (.seq (.reg [⟨none,.mov 29 (.t 2)⟩,
 ⟨none,.fad 30 8 1⟩,
 ⟨none,.load 31 30 1 false⟩,
 ⟨none,.bin 32 .sub (.k (.int .u64 18446744073709551615)) (.t 31)⟩,
 ⟨none,.bin 33 .gtr (.t 29) (.t 32)⟩,
 ⟨none,.mov 28 (.t 33)⟩])
 (.cond (.t 28)
 (.seq (.reg [⟨none,.load 34 3 1 true⟩,
 ⟨none,.call (some 35) 259 [(.t 34)] false⟩,
 ⟨none,.store 6 1 (.t 35)⟩,
 ⟨none,.mov 7 (.k (.int .i64 5))⟩])
 (.ret))
 (.skip))))))))
 (.seq (.reg [⟨none,.fad 36 8 1⟩,
 ⟨none,.load 37 36 1 false⟩,
 ⟨none,.mov 38 (.t 2)⟩,
 ⟨none,.bin 39 .add (.t 37) (.t 38)⟩,
 ⟨none,.fad 40 8 1⟩,
 ⟨none,.store 40 1 (.t 39)⟩])
 (.seq (.reg [⟨none,.load 41 3 1 true⟩,
 ⟨none,.load 42 8 5 true⟩,
 ⟨none,.call (some 43) 336 [(.t 41),(.t 42)] false⟩,
 ⟨none,.store 6 1 (.t 43)⟩,
 ⟨none,.mov 7 (.k (.int .i64 0))⟩])
 (.ret)))))⟩
def r326:RF:=
 ⟨3,[.cell 6 1 true,.tmp 7],
 .seq (.reg [⟨none,.locb 3 (.t 0)⟩,
 ⟨none,.loc 6 [.nil]⟩,
 ⟨none,.mov 7 (.k (.int .i64 0))⟩])
 (.seq (.reg [⟨none,.load 11 3 1 true⟩,
 ⟨none,.mov 12 (.t 1)⟩,
 ⟨none,.call (some 13) 335 [(.t 11),(.t 12),(.k (.int .i64 1))] false⟩,
 ⟨none,.mov 10 (.t 13)⟩,
 ⟨none,.ext 14 (.t 10) 0⟩,
 ⟨none,.ext 15 (.t 10) 1⟩,
 ⟨none,.loc 8 [.int .u64 0,.int .u64 0,.int .u64 0,.int .u64 0,.int .i64 0]⟩,
 ⟨none,.store 8 5 (.t 14)⟩,
 ⟨none,.mov 9 (.t 15)⟩])
 (.seq (.block 0 (.seq (.reg [⟨none,.mov 17 (.t 9)⟩,
 ⟨none,.bin 18 .neq (.t 17) (.k (.int .i64 0))⟩,
 ⟨none,.mov 16 (.t 18)⟩])
 (.cond (.t 16)
 (.seq (.reg [⟨none,.load 19 3 1 true⟩,
 ⟨none,.call (some 20) 259 [(.t 19)] false⟩,
 ⟨none,.mov 21 (.t 9)⟩,
 ⟨none,.store 6 1 (.t 20)⟩,
 ⟨none,.mov 7 (.t 21)⟩])
 (.ret))
 (.seq (.reg [⟨none,.fad 23 8 4⟩,
 ⟨none,.load 24 23 1 false⟩,
 ⟨none,.bin 25 .neq (.t 24) (.k (.int .i64 0))⟩,
 ⟨none,.mov 22 (.t 25)⟩])
 (.cond (.t 22)
 (.seq (.reg [⟨none,.load 26 3 1 true⟩,
 ⟨none,.call (some 27) 259 [(.t 26)] false⟩,
 ⟨none,.store 6 1 (.t 27)⟩,
 ⟨none,.mov 7 (.k (.int .i64 6))⟩])
 (.ret))
 (.seq (.reg [⟨none,.mov 29 (.t 2)⟩,
 ⟨none,.fad 30 8 1⟩,
 ⟨none,.load 31 30 1 false⟩,
 ⟨none,.bin 32 .gtr (.t 29) (.t 31)⟩,
 ⟨none,.mov 28 (.t 32)⟩])
 (.cond (.t 28)
 (.seq (.reg [⟨none,.load 33 3 1 true⟩,
 ⟨none,.call (some 34) 259 [(.t 33)] false⟩,
 ⟨none,.store 6 1 (.t 34)⟩,
 ⟨none,.mov 7 (.k (.int .i64 4))⟩])
 (.ret))
 (.skip))))))))
 (.seq (.reg [⟨none,.fad 35 8 1⟩,
 ⟨none,.load 36 35 1 false⟩,
 ⟨none,.mov 37 (.t 2)⟩,
 ⟨none,.bin 38 .sub (.t 36) (.t 37)⟩,
 ⟨none,.fad 39 8 1⟩,
 ⟨none,.store 39 1 (.t 38)⟩])
 (.seq (.reg [⟨none,.load 40 3 1 true⟩,
 ⟨none,.load 41 8 5 true⟩,
 ⟨none,.call (some 42) 336 [(.t 40),(.t 41)] false⟩,
 ⟨none,.store 6 1 (.t 42)⟩,
 ⟨none,.mov 7 (.k (.int .i64 0))⟩])
 (.ret)))))⟩
def r328L0:RC:=
 .seq (.seq (.reg [⟨none,.mov 6 (.t 5)⟩,
 ⟨none,.fad 7 2 0⟩,
 ⟨none,.load 8 7 1 false⟩,
 ⟨none,.len 9 (.t 8)⟩,
 ⟨none,.bin 10 .lss (.t 6) (.t 9)⟩])
 (.cond (.t 10)
 (.skip)
 (.exit 0)))
 (.seq (.block 1 (.seq (.reg [⟨none,.fad 13 2 0⟩,
 ⟨none,.load 14 13 1 false⟩,
 ⟨none,.mov 15 (.t 5)⟩,
 ⟨none,.idx 16 11 (.t 14) (.t 15)⟩,
 ⟨none,.fad 17 16 0⟩,
 ⟨none,.load 18 17 1 false⟩,
 ⟨none,.mov 19 (.t 1)⟩,
 ⟨none,.bin 20 .eql (.t 18) (.t 19)⟩])
 (.cond (.t 20)
 (.seq (.reg [⟨none,.mov 21 (.t 5)⟩,
 ⟨none,.mov 4 (.t 21)⟩])
 (.ret))
 (.skip))))
 (.reg [⟨none,.mov 11 (.t 5)⟩,
 ⟨none,.bin 12 .add (.t 11) (.k (.int .i64 1))⟩,
 ⟨none,.mov 5 (.t 12)⟩]))
def r328:RF:=
 ⟨2,[.tmp 4],
 .seq (.reg [⟨none,.locb 2 (.t 0)⟩,
 ⟨none,.mov 4 (.k (.int .i64 0))⟩])
 (.seq (.seq (.reg [⟨none,.mov 5 (.k (.int .i64 0))⟩])
 (.block 0 (.loop [1,2,5]
 r328L0)))
 (.seq (.reg [⟨none,.mov 4 (.k (.int .i64 (-1)))⟩])
 (.ret)))⟩
def r335:RF:=
 ⟨3,[.cell 6 5 true,.tmp 7],
 .seq (.reg [⟨none,.locb 3 (.t 0)⟩,
 ⟨none,.loc 6 [.int .u64 0,.int .u64 0,.int .u64 0,.int .u64 0,.int .i64 0]⟩,
 ⟨none,.mov 7 (.k (.int .i64 0))⟩])
 (.seq (.seq (.reg [⟨none,.load 9 3 1 true⟩,
 ⟨none,.call (some 10) 241 [(.t 9)] false⟩,
 ⟨none,.not 11 (.t 10)⟩,
 ⟨none,.mov 12 (.t 11)⟩,
 ⟨some (12,false),.mov 13 (.t 2)⟩,
 ⟨some (12,false),.bin 14 .lss (.t 13) (.k (.int .i64 1))⟩,
 ⟨none,.pick 15 (.t 12) (.k (.bool true)) (.t 14)⟩])
 (.cond (.t 15)
 (.seq (.reg [⟨none,.build 16 [.int .u64 0,.int .u64 0,.int .u64 0,.int .u64 0,.int .i64 0] []⟩,
 ⟨none,.store 6 5 (.t 16)⟩,
 ⟨none,.mov 7 (.k (.int .i64 1))⟩])
 (.ret))
 (.skip)))
 (.seq (.reg [⟨none,.load 17 3 1 true⟩,
 ⟨none,.mov 18 (.t 1)⟩,
 ⟨none,.call (some 19) 328 [(.t 17),(.t 18)] false⟩,
 ⟨none,.mov 8 (.t 19)⟩])
 (.seq (.seq (.reg [⟨none,.mov 20 (.t 8)⟩,
 ⟨none,.bin 21 .lss (.t 20) (.k (.int .i64 0))⟩])
 (.cond (.t 21)
 (.seq (.reg [⟨none,.build 22 [.int .u64 0,.int .u64 0,.int .u64 0,.int .u64 0,.int .i64 0] []⟩,
 ⟨none,.store 6 5 (.t 22)⟩,
 ⟨none,.mov 7 (.k (.int .i64 2))⟩])
 (.ret))
 (.skip)))
 (.seq (.reg [⟨none,.fad 23 3 0⟩,
 ⟨none,.load 24 23 1 false⟩,
 ⟨none,.mov 25 (.t 8)⟩,
 ⟨none,.idx 26 11 (.t 24) (.t 25)⟩,
 ⟨none,.load 27 26 5 true⟩,
 ⟨none,.store 6 5 (.t 27)⟩,
 ⟨none,.mov 7 (.k (.int .i64 0))⟩])
 (.ret)))))⟩
def r336L0:RC:=
 .seq (.seq (.reg [⟨none,.mov 9 (.t 6)⟩,
 ⟨none,.fad 10 5 0⟩,
 ⟨none,.load 11 10 1 false⟩,
 ⟨none,.len 12 (.t 11)⟩,
 ⟨none,.bin 13 .lss (.t 9) (.t 12)⟩])
 (.cond (.t 13)
 (.skip)
 (.exit 0)))
 (.seq (.block 1 (.seq (.reg [⟨none,.chk []⟩,
 ⟨none,.mov 18 (.t 6)⟩,
 ⟨none,.fad 16 5 0⟩,
 ⟨none,.load 17 16 1 false⟩,
 ⟨none,.idx 19 11 (.t 17) (.t 18)⟩,
 ⟨none,.fad 20 19 0⟩,
 ⟨none,.load 21 20 1 false⟩,
 ⟨none,.fad 22 3 0⟩,
 ⟨none,.load 23 22 1 false⟩,
 ⟨none,.bin 24 .eql (.t 21) (.t 23)⟩])
 (.cond (.t 24)
 (.reg [⟨none,.fad 25 5 0⟩,
 ⟨none,.load 26 25 1 false⟩,
 ⟨none,.mov 27 (.t 6)⟩,
 ⟨none,.load 28 3 5 true⟩,
 ⟨none,.idx 29 11 (.t 26) (.t 27)⟩,
 ⟨none,.store 29 5 (.t 28)⟩])
 (.skip))))
 (.reg [⟨none,.mov 14 (.t 6)⟩,
 ⟨none,.bin 15 .add (.t 14) (.k (.int .i64 1))⟩,
 ⟨none,.mov 6 (.t 15)⟩]))
def r336:RF:=
 ⟨2,[.cell 4 1 true],
 .seq (.reg [⟨none,.locb 2 (.t 0)⟩,
 ⟨none,.locb 3 (.t 1)⟩,
 ⟨none,.loc 4 [.nil]⟩])
 (.seq (.reg [⟨none,.load 7 2 1 true⟩,
 ⟨none,.call (some 8) 259 [(.t 7)] false⟩,
 ⟨none,.loc 5 [.nil]⟩,
 ⟨none,.store 5 1 (.t 8)⟩])
 (.seq (.seq (.reg [⟨none,.mov 6 (.k (.int .i64 0))⟩])
 (.block 0 (.loop [3,4,5,6]
 r336L0)))
 (.seq (.reg [⟨none,.load 30 5 1 true⟩,
 ⟨none,.store 4 1 (.t 30)⟩])
 (.ret))))⟩
def r388:RF:=
 ⟨4,[.cell 8 1 true,.tmp 9],
 .seq (.reg [⟨none,.locb 4 (.t 0)⟩,
 ⟨none,.loc 8 [.nil]⟩,
 ⟨none,.mov 9 (.k (.int .i64 0))⟩])
 (.seq (.reg [⟨none,.load 13 4 1 true⟩,
 ⟨none,.mov 14 (.t 1)⟩,
 ⟨none,.mov 15 (.t 3)⟩,
 ⟨none,.call (some 16) 335 [(.t 13),(.t 14),(.t 15)] false⟩,
 ⟨none,.mov 12 (.t 16)⟩,
 ⟨none,.ext 17 (.t 12) 0⟩,
 ⟨none,.ext 18 (.t 12) 1⟩,
 ⟨none,.loc 10 [.int .u64 0,.int .u64 0,.int .u64 0,.int .u64 0,.int .i64 0]⟩,
 ⟨none,.store 10 5 (.t 17)⟩,
 ⟨none,.mov 11 (.t 18)⟩])
 (.seq (.block 0 (.seq (.reg [⟨none,.mov 20 (.t 11)⟩,
 ⟨none,.bin 21 .neq (.t 20) (.k (.int .i64 0))⟩,
 ⟨none,.mov 19 (.t 21)⟩])
 (.cond (.t 19)
 (.seq (.reg [⟨none,.load 22 4 1 true⟩,
 ⟨none,.call (some 23) 259 [(.t 22)] false⟩,
 ⟨none,.mov 24 (.t 11)⟩,
 ⟨none,.store 8 1 (.t 23)⟩,
 ⟨none,.mov 9 (.t 24)⟩])
 (.ret))
 (.seq (.reg [⟨none,.fad 26 10 4⟩,
 ⟨none,.load 27 26 1 false⟩,
 ⟨none,.bin 28 .neq (.t 27) (.k (.int .i64 0))⟩,
 ⟨none,.mov 25 (.t 28)⟩])
 (.cond (.t 25)
 (.seq (.reg [⟨none,.load 29 4 1 true⟩,
 ⟨none,.call (some 30) 259 [(.t 29)] false⟩,
 ⟨none,.store 8 1 (.t 30)⟩,
 ⟨none,.mov 9 (.k (.int .i64 6))⟩])
 (.ret))
 (.seq (.reg [⟨none,.mov 32 (.t 2)⟩,
 ⟨none,.fad 33 10 1⟩,
 ⟨none,.load 34 33 1 false⟩,
 ⟨none,.bin 35 .gtr (.t 32) (.t 34)⟩,
 ⟨none,.mov 31 (.t 35)⟩])
 (.cond (.t 31)
 (.seq (.reg [⟨none,.load 36 4 1 true⟩,
 ⟨none,.call (some 37) 259 [(.t 36)] false⟩,
 ⟨none,.store 8 1 (.t 37)⟩,
 ⟨none,.mov 9 (.k (.int .i64 4))⟩])
 (.ret))
 (.skip))))))))
 (.seq (.reg [⟨none,.fad 38 10 1⟩,
 ⟨none,.load 39 38 1 false⟩,
 ⟨none,.mov 40 (.t 2)⟩,
 ⟨none,.bin 41 .sub (.t 39) (.t 40)⟩,
 ⟨none,.fad 42 10 1⟩,
 ⟨none,.store 42 1 (.t 41)⟩])
 (.seq (.reg [⟨none,.mov 43 (.t 2)⟩,
 ⟨none,.fad 44 10 2⟩,
 ⟨none,.store 44 1 (.t 43)⟩])
 (.seq (.reg [⟨none,.mov 45 (.t 3)⟩,
 ⟨none,.fad 46 10 4⟩,
 ⟨none,.store 46 1 (.t 45)⟩])
 (.seq (.reg [⟨none,.load 47 4 1 true⟩,
 ⟨none,.load 48 10 5 true⟩,
 ⟨none,.call (some 49) 336 [(.t 47),(.t 48)] false⟩,
 ⟨none,.store 8 1 (.t 49)⟩,
 ⟨none,.mov 9 (.k (.int .i64 0))⟩])
 (.ret)))))))⟩
def r389:RF:=
 ⟨4,[.cell 8 1 true,.tmp 9],
 .seq (.reg [⟨none,.locb 4 (.t 0)⟩,
 ⟨none,.loc 8 [.nil]⟩,
 ⟨none,.mov 9 (.k (.int .i64 0))⟩])
 (.seq (.reg [⟨none,.load 13 4 1 true⟩,
 ⟨none,.mov 14 (.t 1)⟩,
 ⟨none,.mov 15 (.t 3)⟩,
 ⟨none,.call (some 16) 335 [(.t 13),(.t 14),(.t 15)] false⟩,
 ⟨none,.mov 12 (.t 16)⟩,
 ⟨none,.ext 17 (.t 12) 0⟩,
 ⟨none,.ext 18 (.t 12) 1⟩,
 ⟨none,.loc 10 [.int .u64 0,.int .u64 0,.int .u64 0,.int .u64 0,.int .i64 0]⟩,
 ⟨none,.store 10 5 (.t 17)⟩,
 ⟨none,.mov 11 (.t 18)⟩])
 (.seq (.block 0 (.seq (.reg [⟨none,.mov 20 (.t 11)⟩,
 ⟨none,.bin 21 .neq (.t 20) (.k (.int .i64 0))⟩,
 ⟨none,.mov 19 (.t 21)⟩])
 (.cond (.t 19)
 (.seq (.reg [⟨none,.load 22 4 1 true⟩,
 ⟨none,.call (some 23) 259 [(.t 22)] false⟩,
 ⟨none,.mov 24 (.t 11)⟩,
 ⟨none,.store 8 1 (.t 23)⟩,
 ⟨none,.mov 9 (.t 24)⟩])
 (.ret))
 (.seq (.reg [⟨none,.fad 26 10 4⟩,
 ⟨none,.load 27 26 1 false⟩,
 ⟨none,.bin 28 .neq (.t 27) (.k (.int .i64 0))⟩,
 ⟨none,.mov 25 (.t 28)⟩])
 (.cond (.t 25)
 (.seq (.reg [⟨none,.load 29 4 1 true⟩,
 ⟨none,.call (some 30) 259 [(.t 29)] false⟩,
 ⟨none,.store 8 1 (.t 30)⟩,
 ⟨none,.mov 9 (.k (.int .i64 6))⟩])
 (.ret))
 (.seq (.reg [⟨none,.mov 32 (.t 2)⟩,
 ⟨none,.fad 33 10 1⟩,
 ⟨none,.load 34 33 1 false⟩,
 ⟨none,.bin 35 .sub (.k (.int .u64 18446744073709551615)) (.t 34)⟩,
 ⟨none,.bin 36 .gtr (.t 32) (.t 35)⟩,
 ⟨none,.mov 31 (.t 36)⟩])
 (.cond (.t 31)
 (.seq (.reg [⟨none,.load 37 4 1 true⟩,
 ⟨none,.call (some 38) 259 [(.t 37)] false⟩,
 ⟨none,.store 8 1 (.t 38)⟩,
 ⟨none,.mov 9 (.k (.int .i64 5))⟩])
 (.ret))
 (.skip))))))))
 (.seq (.reg [⟨none,.mov 39 (.t 2)⟩,
 ⟨none,.fad 40 10 3⟩,
 ⟨none,.store 40 1 (.t 39)⟩])
 (.seq (.reg [⟨none,.mov 41 (.t 3)⟩,
 ⟨none,.fad 42 10 4⟩,
 ⟨none,.store 42 1 (.t 41)⟩])
 (.seq (.reg [⟨none,.load 43 4 1 true⟩,
 ⟨none,.load 44 10 5 true⟩,
 ⟨none,.call (some 45) 336 [(.t 43),(.t 44)] false⟩,
 ⟨none,.store 8 1 (.t 45)⟩,
 ⟨none,.mov 9 (.k (.int .i64 0))⟩])
 (.ret))))))⟩
def r390:RF:=
 ⟨3,[.cell 6 1 true,.tmp 7],
 .seq (.reg [⟨none,.locb 3 (.t 0)⟩,
 ⟨none,.loc 6 [.nil]⟩,
 ⟨none,.mov 7 (.k (.int .i64 0))⟩])
 (.seq (.reg [⟨none,.load 11 3 1 true⟩,
 ⟨none,.mov 12 (.t 1)⟩,
 ⟨none,.mov 13 (.t 2)⟩,
 ⟨none,.call (some 14) 335 [(.t 11),(.t 12),(.t 13)] false⟩,
 ⟨none,.mov 10 (.t 14)⟩,
 ⟨none,.ext 15 (.t 10) 0⟩,
 ⟨none,.ext 16 (.t 10) 1⟩,
 ⟨none,.loc 8 [.int .u64 0,.int .u64 0,.int .u64 0,.int .u64 0,.int .i64 0]⟩,
 ⟨none,.store 8 5 (.t 15)⟩,
 ⟨none,.mov 9 (.t 16)⟩])
 (.seq (.block 0 (.seq (.reg [⟨none,.mov 18 (.t 9)⟩,
 ⟨none,.bin 19 .neq (.t 18) (.k (.int .i64 0))⟩,
 ⟨none,.mov 17 (.t 19)⟩])
 (.cond (.t 17)
 (.seq (.reg [⟨none,.load 20 3 1 true⟩,
 ⟨none,.call (some 21) 259 [(.t 20)] false⟩,
 ⟨none,.mov 22 (.t 9)⟩,
 ⟨none,.store 6 1 (.t 21)⟩,
 ⟨none,.mov 7 (.t 22)⟩])
 (.ret))
 (.seq (.reg [⟨none,.fad 24 8 4⟩,
 ⟨none,.load 25 24 1 false⟩,
 ⟨none,.mov 26 (.t 2)⟩,
 ⟨none,.bin 27 .neq (.t 25) (.t 26)⟩,
 ⟨none,.mov 23 (.t 27)⟩])
 (.cond (.t 23)
 (.seq (.reg [⟨none,.load 28 3 1 true⟩,
 ⟨none,.call (some 29) 259 [(.t 28)] false⟩,
 ⟨none,.store 6 1 (.t 29)⟩,
 ⟨none,.mov 7 (.k (.int .i64 7))⟩])
 (.ret))
 (.skip))))))
 (.seq (.reg [⟨none,.load 30 3 1 true⟩,
 ⟨none,.mov 31 (.t 1)⟩,
 ⟨none,.fad 32 8 1⟩,
 ⟨none,.load 33 32 1 false⟩,
 ⟨none,.fad 34 8 3⟩,
 ⟨none,.load 35 34 1 false⟩,
 ⟨none,.bin 36 .add (.t 33) (.t 35)⟩,
 ⟨none,.build 37 [.int .u64 0,.int .u64 0,.int .u64 0,.int .u64 0,.int .i64 0] [(0,1,(.t 31)),(1,1,(.t 36))]⟩,
 ⟨none,.call (some 38) 336 [(.t 30),(.t 37)] false⟩,
 ⟨none,.store 6 1 (.t 38)⟩,
 ⟨none,.mov 7 (.k (.int .i64 0))⟩])
 (.ret))))⟩
def r391:RF:=
 ⟨3,[.cell 6 1 true,.tmp 7],
 .seq (.reg [⟨none,.locb 3 (.t 0)⟩,
 ⟨none,.loc 6 [.nil]⟩,
 ⟨none,.mov 7 (.k (.int .i64 0))⟩])
 (.seq (.reg [⟨none,.load 11 3 1 true⟩,
 ⟨none,.mov 12 (.t 1)⟩,
 ⟨none,.mov 13 (.t 2)⟩,
 ⟨none,.call (some 14) 335 [(.t 11),(.t 12),(.t 13)] false⟩,
 ⟨none,.mov 10 (.t 14)⟩,
 ⟨none,.ext 15 (.t 10) 0⟩,
 ⟨none,.ext 16 (.t 10) 1⟩,
 ⟨none,.loc 8 [.int .u64 0,.int .u64 0,.int .u64 0,.int .u64 0,.int .i64 0]⟩,
 ⟨none,.store 8 5 (.t 15)⟩,
 ⟨none,.mov 9 (.t 16)⟩])
 (.seq (.block 0 (.seq (.reg [⟨none,.mov 18 (.t 9)⟩,
 ⟨none,.bin 19 .neq (.t 18) (.k (.int .i64 0))⟩,
 ⟨none,.mov 17 (.t 19)⟩])
 (.cond (.t 17)
 (.seq (.reg [⟨none,.load 20 3 1 true⟩,
 ⟨none,.call (some 21) 259 [(.t 20)] false⟩,
 ⟨none,.mov 22 (.t 9)⟩,
 ⟨none,.store 6 1 (.t 21)⟩,
 ⟨none,.mov 7 (.t 22)⟩])
 (.ret))
 (.seq (.reg [⟨none,.fad 24 8 4⟩,
 ⟨none,.load 25 24 1 false⟩,
 ⟨none,.mov 26 (.t 2)⟩,
 ⟨none,.bin 27 .neq (.t 25) (.t 26)⟩,
 ⟨none,.mov 23 (.t 27)⟩])
 (.cond (.t 23)
 (.seq (.reg [⟨none,.load 28 3 1 true⟩,
 ⟨none,.call (some 29) 259 [(.t 28)] false⟩,
 ⟨none,.store 6 1 (.t 29)⟩,
 ⟨none,.mov 7 (.k (.int .i64 7))⟩])
 (.ret))
 (.skip))))))
 (.seq (.reg [⟨none,.load 30 3 1 true⟩,
 ⟨none,.mov 31 (.t 1)⟩,
 ⟨none,.fad 32 8 1⟩,
 ⟨none,.load 33 32 1 false⟩,
 ⟨none,.fad 34 8 2⟩,
 ⟨none,.load 35 34 1 false⟩,
 ⟨none,.bin 36 .add (.t 33) (.t 35)⟩,
 ⟨none,.build 37 [.int .u64 0,.int .u64 0,.int .u64 0,.int .u64 0,.int .i64 0] [(0,1,(.t 31)),(1,1,(.t 36))]⟩,
 ⟨none,.call (some 38) 336 [(.t 30),(.t 37)] false⟩,
 ⟨none,.store 6 1 (.t 38)⟩,
 ⟨none,.mov 7 (.k (.int .i64 0))⟩])
 (.ret))))⟩
def tS10:List (Nat×RF):=[(235,r235),(237,r237),(241,r241),(259,r259),(323,r323),(324,r324),(325,r325),(326,r326),(328,r328),(335,r335),(336,r336),(388,r388),(389,r389),(390,r390),(391,r391)]
def r271:RF:=
 ⟨1,[.tmp 2],
 .seq (.reg [⟨none,.mov 2 (.k (.int .u64 0))⟩])
 (.seq (.reg [⟨none,.lit 3 13 10 [.int .u64 0] [(0,(.k (.int .u64 0))),(1,(.k (.int .u64 1))),(2,(.k (.int .u64 2))),(3,(.k (.int .u64 6))),(4,(.k (.int .u64 10))),(5,(.k (.int .u64 101))),(6,(.k (.int .u64 9223372036854775808))),(7,(.k (.int .u64 18446744073709551615))),(8,(.k (.int .u64 18446744073709551614))),(9,(.k (.int .u64 50)))]⟩,
 ⟨none,.mov 4 (.t 0)⟩,
 ⟨none,.call (some 5) 236 [(.t 4),(.k (.int .i64 10))] false⟩,
 ⟨none,.idx 6 13 (.t 3) (.t 5)⟩,
 ⟨none,.load 7 6 1 false⟩,
 ⟨none,.mov 2 (.t 7)⟩])
 (.ret))⟩
def tS11:List (Nat×RF):=[(271,r271)]
def r156L0:RC:=
 .seq (.seq (.reg [⟨none,.mov 21 (.t 3)⟩,
 ⟨none,.fad 22 1 2⟩,
 ⟨none,.load 23 22 1 false⟩,
 ⟨none,.len 24 (.t 23)⟩,
 ⟨none,.bin 25 .lss (.t 21) (.t 24)⟩])
 (.cond (.t 25)
 (.skip)
 (.exit 0)))
 (.seq (.block 1 (.seq (.reg [⟨none,.fad 28 1 2⟩,
 ⟨none,.load 29 28 1 false⟩,
 ⟨none,.mov 30 (.t 3)⟩,
 ⟨none,.idx 31 16 (.t 29) (.t 30)⟩,
 ⟨none,.load 32 31 6 true⟩,
 ⟨none,.loc 4 [.int .u64 0,.int .u64 0,.int .i64 0,.int .i64 0,.nil,.nil]⟩,
 ⟨none,.store 4 6 (.t 32)⟩])
 (.seq (.reg [⟨none,.chk []⟩,
 ⟨none,.load 33 4 6 true⟩,
 ⟨none,.call (some 34) 204 [(.t 33)] true⟩,
 ⟨none,.not 35 (.t 34)⟩,
 ⟨none,.mov 36 (.t 35)⟩,
 ⟨some (36,false),.fad 37 4 3⟩,
 ⟨some (36,false),.load 38 37 1 false⟩,
 ⟨some (36,false),.fad 39 1 1⟩,
 ⟨some (36,false),.load 40 39 1 false⟩,
 ⟨some (36,false),.bin 41 .gtr (.t 38) (.t 40)⟩,
 ⟨none,.pick 42 (.t 36) (.k (.bool true)) (.t 41)⟩,
 ⟨none,.mov 43 (.t 42)⟩,
 ⟨some (43,false),.mov 44 (.t 3)⟩,
 ⟨some (43,false),.bin 45 .gtr (.t 44) (.k (.int .i64 0))⟩,
 ⟨some (43,false),.mov 46 (.t 45)⟩,
 ⟨some (46,true),.mov 49 (.t 3)⟩,
 ⟨some (46,true),.bin 50 .sub (.t 49) (.k (.int .i64 1))⟩,
 ⟨some (46,true),.fad 47 1 2⟩,
 ⟨some (46,true),.load 48 47 1 false⟩,
 ⟨some (46,true),.idx 51 16 (.t 48) (.t 50)⟩,
 ⟨some (46,true),.fad 52 51 1⟩,
 ⟨some (46,true),.load 53 52 1 false⟩,
 ⟨some (46,true),.fad 54 4 0⟩,
 ⟨some (46,true),.load 55 54 1 false⟩,
 ⟨some (46,true),.bin 56 .geq (.t 53) (.t 55)⟩,
 ⟨some (43,false),.pick 57 (.t 46) (.t 56) (.k (.bool false))⟩,
 ⟨none,.pick 58 (.t 43) (.k (.bool true)) (.t 57)⟩])
 (.cond (.t 58)
 (.seq (.reg [⟨none,.mov 2 (.k (.bool false))⟩])
 (.ret))
 (.skip)))))
 (.reg [⟨none,.mov 26 (.t 3)⟩,
 ⟨none,.bin 27 .add (.t 26) (.k (.int .i64 1))⟩,
 ⟨none,.mov 3 (.t 27)⟩]))
def r156:RF:=
 ⟨1,[.tmp 2],
 .seq (.reg [⟨none,.locb 1 (.t 0)⟩,
 ⟨none,.mov 2 (.k (.bool false))⟩])
 (.seq (.seq (.reg [⟨none,.fad 5 1 0⟩,
 ⟨none,.load 6 5 1 false⟩,
 ⟨none,.call (some 7) 5 [(.t 6),(.k (.int .i64 0)),(.k (.int .i64 99))] false⟩,
 ⟨none,.not 8 (.t 7)⟩,
 ⟨none,.mov 9 (.t 8)⟩,
 ⟨some (9,false),.fad 10 1 1⟩,
 ⟨some (9,false),.load 11 10 1 false⟩,
 ⟨some (9,false),.call (some 12) 5 [(.t 11),(.k (.int .i64 0)),(.k (.int .i64 1000000))] false⟩,
 ⟨some (9,false),.not 13 (.t 12)⟩,
 ⟨none,.pick 14 (.t 9) (.k (.bool true)) (.t 13)⟩,
 ⟨none,.mov 15 (.t 14)⟩,
 ⟨some (15,false),.fad 16 1 2⟩,
 ⟨some (15,false),.load 17 16 1 false⟩,
 ⟨some (15,false),.len 18 (.t 17)⟩,
 ⟨some (15,false),.bin 19 .gtr (.t 18) (.k (.int .i64 8))⟩,
 ⟨none,.pick 20 (.t 15) (.k (.bool true)) (.t 19)⟩])
 (.cond (.t 20)
 (.seq (.reg [⟨none,.mov 2 (.k (.bool false))⟩])
 (.ret))
 (.skip)))
 (.seq (.seq (.reg [⟨none,.mov 3 (.k (.int .i64 0))⟩])
 (.block 0 (.loop [1,3]
 r156L0)))
 (.seq (.reg [⟨none,.mov 2 (.k (.bool true))⟩])
 (.ret))))⟩
def r189:RF:=
 ⟨2,[.cell 4 6 true,.tmp 5],
 .seq (.reg [⟨none,.locb 2 (.t 0)⟩,
 ⟨none,.loc 4 [.int .u64 0,.int .u64 0,.int .i64 0,.int .i64 0,.nil,.nil]⟩,
 ⟨none,.mov 5 (.k (.bool false))⟩])
 (.seq (.reg [⟨none,.load 7 2 3 true⟩,
 ⟨none,.mov 8 (.t 1)⟩,
 ⟨none,.call (some 9) 210 [(.t 7),(.t 8),(.k (.int .i64 1))] false⟩,
 ⟨none,.mov 6 (.t 9)⟩])
 (.seq (.seq (.reg [⟨none,.load 10 2 3 true⟩,
 ⟨none,.call (some 11) 156 [(.t 10)] false⟩,
 ⟨none,.not 12 (.t 11)⟩,
 ⟨none,.mov 13 (.t 12)⟩,
 ⟨some (13,false),.mov 14 (.t 6)⟩,
 ⟨some (13,false),.bin 15 .lss (.t 14) (.k (.int .i64 0))⟩,
 ⟨none,.pick 16 (.t 13) (.k (.bool true)) (.t 15)⟩])
 (.cond (.t 16)
 (.seq (.reg [⟨none,.build 17 [.int .u64 0,.int .u64 0,.int .i64 0,.int .i64 0,.nil,.nil] []⟩,
 ⟨none,.store 4 6 (.t 17)⟩,
 ⟨none,.mov 5 (.k (.bool false))⟩])
 (.ret))
 (.skip)))
 (.seq (.reg [⟨none,.fad 18 2 2⟩,
 ⟨none,.load 19 18 1 false⟩,
 ⟨none,.mov 20 (.t 6)⟩,
 ⟨none,.idx 21 16 (.t 19) (.t 20)⟩,
 ⟨none,.load 22 21 6 true⟩,
 ⟨none,.call (some 23) 228 [(.t 22)] false⟩,
 ⟨none,.store 4 6 (.t 23)⟩,
 ⟨none,.mov 5 (.k (.bool true))⟩])
 (.ret))))⟩
def r204L0:RC:=
 .seq (.seq (.reg [⟨none,.mov 80 (.t 5)⟩,
 ⟨none,.fad 81 1 4⟩,
 ⟨none,.fad 82 81 0⟩,
 ⟨none,.load 83 82 1 false⟩,
 ⟨none,.len 84 (.t 83)⟩,
 ⟨none,.bin 85 .lss (.t 80) (.t 84)⟩])
 (.cond (.t 85)
 (.skip)
 (.exit 2)))
 (.seq (.block 3 (.seq (.reg [⟨none,.fad 88 1 4⟩,
 ⟨none,.fad 89 88 0⟩,
 ⟨none,.load 90 89 1 false⟩,
 ⟨none,.mov 91 (.t 5)⟩,
 ⟨none,.idx 92 11 (.t 90) (.t 91)⟩,
 ⟨none,.load 93 92 5 true⟩,
 ⟨none,.loc 6 [.int .u64 0,.int .u64 0,.int .u64 0,.int .u64 0,.int .i64 0]⟩,
 ⟨none,.store 6 5 (.t 93)⟩])
 (.seq (.reg [⟨none,.fad 94 6 0⟩,
 ⟨none,.load 95 94 1 false⟩,
 ⟨none,.fad 96 1 0⟩,
 ⟨none,.load 97 96 1 false⟩,
 ⟨none,.bin 98 .lss (.t 95) (.t 97)⟩,
 ⟨none,.mov 99 (.t 98)⟩,
 ⟨some (99,false),.fad 100 6 0⟩,
 ⟨some (99,false),.load 101 100 1 false⟩,
 ⟨some (99,false),.fad 102 1 1⟩,
 ⟨some (99,false),.load 103 102 1 false⟩,
 ⟨some (99,false),.bin 104 .gtr (.t 101) (.t 103)⟩,
 ⟨none,.pick 105 (.t 99) (.k (.bool true)) (.t 104)⟩,
 ⟨none,.mov 106 (.t 105)⟩,
 ⟨some (106,false),.fad 107 1 5⟩,
 ⟨some (106,false),.load 108 107 1 false⟩,
 ⟨some (106,false),.fad 109 6 4⟩,
 ⟨some (106,false),.load 110 109 1 false⟩,
 ⟨some (106,false),.fad 111 6 0⟩,
 ⟨some (106,false),.load 112 111 1 false⟩,
 ⟨some (106,false),.build 113 [.int .i64 0,.int .u64 0] [(0,1,(.t 110)),(1,1,(.t 112))]⟩,
 ⟨some (106,false),.call (some 114) 243 [(.t 108),(.t 113)] false⟩,
 ⟨none,.pick 115 (.t 106) (.k (.bool true)) (.t 114)⟩])
 (.cond (.t 115)
 (.seq (.reg [⟨none,.mov 2 (.k (.bool false))⟩])
 (.ret))
 (.skip)))))
 (.reg [⟨none,.mov 86 (.t 5)⟩,
 ⟨none,.bin 87 .add (.t 86) (.k (.int .i64 1))⟩,
 ⟨none,.mov 5 (.t 87)⟩]))
def r204L1:RC:=
 .seq (.seq (.reg [⟨none,.mov 36 (.t 3)⟩,
 ⟨none,.fad 37 1 5⟩,
 ⟨none,.load 38 37 1 false⟩,
 ⟨none,.len 39 (.t 38)⟩,
 ⟨none,.bin 40 .lss (.t 36) (.t 39)⟩])
 (.cond (.t 40)
 (.skip)
 (.exit 0)))
 (.seq (.block 1 (.seq (.reg [⟨none,.fad 43 1 5⟩,
 ⟨none,.load 44 43 1 false⟩,
 ⟨none,.mov 45 (.t 3)⟩,
 ⟨none,.idx 46 9 (.t 44) (.t 45)⟩,
 ⟨none,.load 47 46 2 true⟩,
 ⟨none,.loc 4 [.int .i64 0,.int .u64 0]⟩,
 ⟨none,.store 4 2 (.t 47)⟩])
 (.seq (.reg [⟨none,.chk []⟩,
 ⟨none,.fad 48 4 0⟩,
 ⟨none,.load 49 48 1 false⟩,
 ⟨none,.bin 50 .lss (.t 49) (.k (.int .i64 1))⟩,
 ⟨none,.mov 51 (.t 50)⟩,
 ⟨some (51,false),.fad 52 4 1⟩,
 ⟨some (51,false),.load 53 52 1 false⟩,
 ⟨some (51,false),.fad 54 1 0⟩,
 ⟨some (51,false),.load 55 54 1 false⟩,
 ⟨some (51,false),.bin 56 .lss (.t 53) (.t 55)⟩,
 ⟨none,.pick 57 (.t 51) (.k (.bool true)) (.t 56)⟩,
 ⟨none,.mov 58 (.t 57)⟩,
 ⟨some (58,false),.fad 59 4 1⟩,
 ⟨some (58,false),.load 60 59 1 false⟩,
 ⟨some (58,false),.fad 61 1 1⟩,
 ⟨some (58,false),.load 62 61 1 false⟩,
 ⟨some (58,false),.bin 63 .gtr (.t 60) (.t 62)⟩,
 ⟨none,.pick 64 (.t 58) (.k (.bool true)) (.t 63)⟩,
 ⟨none,.mov 65 (.t 64)⟩,
 ⟨some (65,false),.mov 66 (.t 3)⟩,
 ⟨some (65,false),.bin 67 .gtr (.t 66) (.k (.int .i64 0))⟩,
 ⟨some (65,false),.mov 68 (.t 67)⟩,
 ⟨some (68,true),.mov 71 (.t 3)⟩,
 ⟨some (68,true),.bin 72 .sub (.t 71) (.k (.int .i64 1))⟩,
 ⟨some (68,true),.fad 69 1 5⟩,
 ⟨some (68,true),.load 70 69 1 false⟩,
 ⟨some (68,true),.idx 73 9 (.t 70) (.t 72)⟩,
 ⟨some (68,true),.load 74 73 2 true⟩,
 ⟨some (68,true),.load 75 4 2 true⟩,
 ⟨some (68,true),.call (some 76) 242 [(.t 74),(.t 75)] true⟩,
 ⟨some (68,true),.not 77 (.t 76)⟩,
 ⟨some (65,false),.pick 78 (.t 68) (.t 77) (.k (.bool false))⟩,
 ⟨none,.pick 79 (.t 65) (.k (.bool true)) (.t 78)⟩])
 (.cond (.t 79)
 (.seq (.reg [⟨none,.mov 2 (.k (.bool false))⟩])
 (.ret))
 (.skip)))))
 (.reg [⟨none,.mov 41 (.t 3)⟩,
 ⟨none,.bin 42 .add (.t 41) (.k (.int .i64 1))⟩,
 ⟨none,.mov 3 (.t 42)⟩]))
def r204:RF:=
 ⟨1,[.tmp 2],
 .seq (.reg [⟨none,.locb 1 (.t 0)⟩,
 ⟨none,.mov 2 (.k (.bool false))⟩])
 (.seq (.seq (.reg [⟨none,.fad 7 1 0⟩,
 ⟨none,.load 8 7 1 false⟩,
 ⟨none,.fad 9 1 1⟩,
 ⟨none,.load 10 9 1 false⟩,
 ⟨none,.bin 11 .gtr (.t 8) (.t 10)⟩,
 ⟨none,.mov 12 (.t 11)⟩,
 ⟨some (12,false),.fad 13 1 2⟩,
 ⟨some (12,false),.load 14 13 1 false⟩,
 ⟨some (12,false),.call (some 15) 5 [(.t 14),(.k (.int .i64 0)),(.k (.int .i64 1))] false⟩,
 ⟨some (12,false),.not 16 (.t 15)⟩,
 ⟨none,.pick 17 (.t 12) (.k (.bool true)) (.t 16)⟩,
 ⟨none,.mov 18 (.t 17)⟩,
 ⟨some (18,false),.fad 19 1 3⟩,
 ⟨some (18,false),.load 20 19 1 false⟩,
 ⟨some (18,false),.call (some 21) 5 [(.t 20),(.k (.int .i64 1)),(.k (.int .i64 1000000))] false⟩,
 ⟨some (18,false),.not 22 (.t 21)⟩,
 ⟨none,.pick 23 (.t 18) (.k (.bool true)) (.t 22)⟩,
 ⟨none,.mov 24 (.t 23)⟩,
 ⟨some (24,false),.fad 25 1 4⟩,
 ⟨some (24,false),.load 26 25 1 true⟩,
 ⟨some (24,false),.call (some 27) 241 [(.t 26)] false⟩,
 ⟨some (24,false),.not 28 (.t 27)⟩,
 ⟨none,.pick 29 (.t 24) (.k (.bool true)) (.t 28)⟩,
 ⟨none,.mov 30 (.t 29)⟩,
 ⟨some (30,false),.fad 31 1 5⟩,
 ⟨some (30,false),.load 32 31 1 false⟩,
 ⟨some (30,false),.len 33 (.t 32)⟩,
 ⟨some (30,false),.bin 34 .gtr (.t 33) (.k (.int .i64 60))⟩,
 ⟨none,.pick 35 (.t 30) (.k (.bool true)) (.t 34)⟩])
 (.cond (.t 35)
 (.seq (.reg [⟨none,.mov 2 (.k (.bool false))⟩])
 (.ret))
 (.skip)))
 (.seq (.seq (.reg [⟨none,.mov 3 (.k (.int .i64 0))⟩])
 (.block 0 (.loop [1,3]
 r204L1)))
 (.seq (.seq (.reg [⟨none,.mov 5 (.k (.int .i64 0))⟩])
 (.block 2 (.loop [1,5]
 r204L0)))
 (.seq (.reg [⟨none,.mov 2 (.k (.bool true))⟩])
 (.ret)))))⟩
def r210L0:RC:=
 .seq (.seq (.reg [⟨none,.mov 8 (.t 7)⟩,
 ⟨none,.fad 9 3 2⟩,
 ⟨none,.load 10 9 1 false⟩,
 ⟨none,.len 11 (.t 10)⟩,
 ⟨none,.bin 12 .lss (.t 8) (.t 11)⟩])
 (.cond (.t 12)
 (.skip)
 (.exit 0)))
 (.seq (.block 1 (.seq (.reg [⟨none,.fad 15 3 2⟩,
 ⟨none,.load 16 15 1 false⟩,
 ⟨none,.mov 17 (.t 7)⟩,
 ⟨none,.idx 18 16 (.t 16) (.t 17)⟩,
 ⟨none,.fad 19 18 0⟩,
 ⟨none,.load 20 19 1 false⟩,
 ⟨none,.mov 21 (.t 1)⟩,
 ⟨none,.bin 22 .eql (.t 20) (.t 21)⟩,
 ⟨none,.mov 23 (.t 22)⟩,
 ⟨some (23,true),.fad 24 3 2⟩,
 ⟨some (23,true),.load 25 24 1 false⟩,
 ⟨some (23,true),.mov 26 (.t 7)⟩,
 ⟨some (23,true),.idx 27 16 (.t 25) (.t 26)⟩,
 ⟨some (23,true),.fad 28 27 2⟩,
 ⟨some (23,true),.load 29 28 1 false⟩,
 ⟨some (23,true),.mov 30 (.t 2)⟩,
 ⟨some (23,true),.bin 31 .eql (.t 29) (.t 30)⟩,
 ⟨none,.pick 32 (.t 23) (.t 31) (.k (.bool false))⟩])
 (.cond (.t 32)
 (.seq (.reg [⟨none,.mov 33 (.t 7)⟩,
 ⟨none,.mov 6 (.t 33)⟩])
 (.ret))
 (.skip))))
 (.reg [⟨none,.mov 13 (.t 7)⟩,
 ⟨none,.bin 14 .add (.t 13) (.k (.int .i64 1))⟩,
 ⟨none,.mov 7 (.t 14)⟩]))
def r210:RF:=
 ⟨3,[.tmp 6],
 .seq (.reg [⟨none,.locb 3 (.t 0)⟩,
 ⟨none,.mov 6 (.k (.int .i64 0))⟩])
 (.seq (.seq (.reg [⟨none,.mov 7 (.k (.int .i64 0))⟩])
 (.block 0 (.loop [1,2,3,7]
 r210L0)))
 (.seq (.reg [⟨none,.mov 6 (.k (.int .i64 (-1)))⟩])
 (.ret)))⟩
def r211L0:RC:=
 .seq (.seq (.reg [⟨none,.mov 6 (.t 5)⟩,
 ⟨none,.fad 7 2 2⟩,
 ⟨none,.load 8 7 1 false⟩,
 ⟨none,.len 9 (.t 8)⟩,
 ⟨none,.bin 10 .lss (.t 6) (.t 9)⟩])
 (.cond (.t 10)
 (.skip)
 (.exit 0)))
 (.seq (.block 1 (.seq (.reg [⟨none,.fad 13 2 2⟩,
 ⟨none,.load 14 13 1 false⟩,
 ⟨none,.mov 15 (.t 5)⟩,
 ⟨none,.idx 16 16 (.t 14) (.t 15)⟩,
 ⟨none,.fad 17 16 0⟩,
 ⟨none,.load 18 17 1 false⟩,
 ⟨none,.mov 19 (.t 1)⟩,
 ⟨none,.bin 20 .leq (.t 18) (.t 19)⟩,
 ⟨none,.mov 21 (.t 20)⟩,
 ⟨some (21,true),.mov 22 (.t 1)⟩,
 ⟨some (21,true),.fad 23 2 2⟩,
 ⟨some (21,true),.load 24 23 1 false⟩,
 ⟨some (21,true),.mov 25 (.t 5)⟩,
 ⟨some (21,true),.idx 26 16 (.t 24) (.t 25)⟩,
 ⟨some (21,true),.fad 27 26 1⟩,
 ⟨some (21,true),.load 28 27 1 false⟩,
 ⟨some (21,true),.bin 29 .leq (.t 22) (.t 28)⟩,
 ⟨none,.pick 30 (.t 21) (.t 29) (.k (.bool false))⟩])
 (.cond (.t 30)
 (.seq (.reg [⟨none,.mov 31 (.t 5)⟩,
 ⟨none,.mov 4 (.t 31)⟩])
 (.ret))
 (.skip))))
 (.reg [⟨none,.mov 11 (.t 5)⟩,
 ⟨none,.bin 12 .add (.t 11) (.k (.int .i64 1))⟩,
 ⟨none,.mov 5 (.t 12)⟩]))
def r211:RF:=
 ⟨2,[.tmp 4],
 .seq (.reg [⟨none,.locb 2 (.t 0)⟩,
 ⟨none,.mov 4 (.k (.int .i64 0))⟩])
 (.seq (.seq (.reg [⟨none,.mov 5 (.k (.int .i64 0))⟩])
 (.block 0 (.loop [1,2,5]
 r211L0)))
 (.seq (.reg [⟨none,.mov 4 (.k (.int .i64 (-1)))⟩])
 (.ret)))⟩
def r228L0:RC:=
 .seq (.seq (.reg [⟨none,.mov 10 (.t 4)⟩,
 ⟨none,.fad 11 1 5⟩,
 ⟨none,.load 12 11 1 false⟩,
 ⟨none,.len 13 (.t 12)⟩,
 ⟨none,.bin 14 .lss (.t 10) (.t 13)⟩])
 (.cond (.t 14)
 (.skip)
 (.exit 0)))
 (.seq (.block 1 (.reg [⟨none,.mov 17 (.t 3)⟩,
 ⟨none,.fad 18 1 5⟩,
 ⟨none,.load 19 18 1 false⟩,
 ⟨none,.mov 20 (.t 4)⟩,
 ⟨none,.idx 21 9 (.t 19) (.t 20)⟩,
 ⟨none,.load 22 21 2 true⟩,
 ⟨none,.lit 23 9 1 [.int .i64 0,.int .u64 0] [(0,(.t 22))]⟩,
 ⟨none,.app 24 9 16 (.t 17) (.t 23)⟩,
 ⟨none,.mov 3 (.t 24)⟩]))
 (.reg [⟨none,.mov 15 (.t 4)⟩,
 ⟨none,.bin 16 .add (.t 15) (.k (.int .i64 1))⟩,
 ⟨none,.mov 4 (.t 16)⟩]))
def r228:RF:=
 ⟨1,[.cell 2 6 true],
 .seq (.reg [⟨none,.locb 1 (.t 0)⟩,
 ⟨none,.loc 2 [.int .u64 0,.int .u64 0,.int .i64 0,.int .i64 0,.nil,.nil]⟩])
 (.seq (.reg [⟨none,.fad 5 1 4⟩,
 ⟨none,.load 6 5 1 true⟩,
 ⟨none,.call (some 7) 259 [(.t 6)] false⟩,
 ⟨none,.fad 8 1 4⟩,
 ⟨none,.store 8 1 (.t 7)⟩])
 (.seq (.reg [⟨none,.lit 9 9 0 [.int .i64 0,.int .u64 0] []⟩,
 ⟨none,.mov 3 (.t 9)⟩])
 (.seq (.seq (.reg [⟨none,.mov 4 (.k (.int .i64 0))⟩])
 (.block 0 (.loop [1,2,3,4]
 r228L0)))
 (.seq (.reg [⟨none,.mov 25 (.t 3)⟩,
 ⟨none,.fad 26 1 5⟩,
 ⟨none,.store 26 1 (.t 25)⟩])
 (.seq (.reg [⟨none,.load 27 1 6 true⟩,
 ⟨none,.store 2 6 (.t 27)⟩])
 (.ret))))))⟩
def r242:RF:=
 ⟨2,[.tmp 4],
 .seq (.reg [⟨none,.locb 2 (.t 0)⟩,
 ⟨none,.locb 3 (.t 1)⟩,
 ⟨none,.mov 4 (.k (.bool false))⟩])
 (.seq (.reg [⟨none,.fad 5 2 0⟩,
 ⟨none,.load 6 5 1 false⟩,
 ⟨none,.fad 7 3 0⟩,
 ⟨none,.load 8 7 1 false⟩,
 ⟨none,.bin 9 .lss (.t 6) (.t 8)⟩,
 ⟨none,.mov 10 (.t 9)⟩,
 ⟨some (10,false),.fad 11 2 0⟩,
 ⟨some (10,false),.load 12 11 1 false⟩,
 ⟨some (10,false),.fad 13 3 0⟩,
 ⟨some (10,false),.load 14 13 1 false⟩,
 ⟨some (10,false),.bin 15 .eql (.t 12) (.t 14)⟩,
 ⟨some (10,false),.mov 16 (.t 15)⟩,
 ⟨some (16,true),.fad 17 2 1⟩,
 ⟨some (16,true),.load 18 17 1 false⟩,
 ⟨some (16,true),.fad 19 3 1⟩,
 ⟨some (16,true),.load 20 19 1 false⟩,
 ⟨some (16,true),.bin 21 .lss (.t 18) (.t 20)⟩,
 ⟨some (10,false),.pick 22 (.t 16) (.t 21) (.k (.bool false))⟩,
 ⟨none,.pick 23 (.t 10) (.k (.bool true)) (.t 22)⟩,
 ⟨none,.mov 4 (.t 23)⟩])
 (.ret))⟩
def r243L0:RC:=
 .seq (.seq (.reg [⟨none,.mov 6 (.t 5)⟩,
 ⟨none,.mov 7 (.t 0)⟩,
 ⟨none,.len 8 (.t 7)⟩,
 ⟨none,.bin 9 .lss (.t 6) (.t 8)⟩])
 (.cond (.t 9)
 (.skip)
 (.exit 0)))
 (.seq (.block 1 (.seq (.reg [⟨none,.chk []⟩,
 ⟨none,.mov 12 (.t 0)⟩,
 ⟨none,.mov 13 (.t 5)⟩,
 ⟨none,.idx 14 9 (.t 12) (.t 13)⟩,
 ⟨none,.load 15 14 2 true⟩,
 ⟨none,.load 16 3 2 true⟩,
 ⟨none,.eqs 17 false [.i .i64,.i .u64] (.t 15) (.t 16)⟩])
 (.cond (.t 17)
 (.seq (.reg [⟨none,.mov 4 (.k (.bool true))⟩])
 (.ret))
 (.skip))))
 (.reg [⟨none,.mov 10 (.t 5)⟩,
 ⟨none,.bin 11 .add (.t 10) (.k (.int .i64 1))⟩,
 ⟨none,.mov 5 (.t 11)⟩]))
def r243:RF:=
 ⟨2,[.tmp 4],
 .seq (.reg [⟨none,.locb 3 (.t 1)⟩,
 ⟨none,.mov 4 (.k (.bool false))⟩])
 (.seq (.seq (.reg [⟨none,.mov 5 (.k (.int .i64 0))⟩])
 (.block 0 (.loop [0,3,5]
 r243L0)))
 (.seq (.reg [⟨none,.mov 4 (.k (.bool false))⟩])
 (.ret)))⟩
def r290:RF:=
 ⟨2,[.cell 4 3 true,.tmp 5],
 .seq (.reg [⟨none,.locb 2 (.t 0)⟩,
 ⟨none,.loc 4 [.int .i64 0,.int .i64 0,.nil]⟩,
 ⟨none,.mov 5 (.k (.bool false))⟩])
 (.seq (.seq (.reg [⟨none,.load 6 2 3 true⟩,
 ⟨none,.mov 7 (.t 1)⟩,
 ⟨none,.call (some 8) 316 [(.t 6),(.t 7)] false⟩,
 ⟨none,.not 9 (.t 8)⟩])
 (.cond (.t 9)
 (.seq (.reg [⟨none,.load 10 2 3 true⟩,
 ⟨none,.call (some 11) 317 [(.t 10)] false⟩,
 ⟨none,.store 4 3 (.t 11)⟩,
 ⟨none,.mov 5 (.k (.bool false))⟩])
 (.ret))
 (.skip)))
 (.seq (.reg [⟨none,.load 12 2 3 true⟩,
 ⟨none,.mov 13 (.t 1)⟩,
 ⟨none,.call (some 14) 318 [(.t 12),(.t 13)] false⟩,
 ⟨none,.store 4 3 (.t 14)⟩,
 ⟨none,.mov 5 (.k (.bool true))⟩])
 (.ret)))⟩
def r297L0:RC:=
 .seq (.seq (.reg [⟨none,.mov 38 (.t 10)⟩,
 ⟨none,.fad 39 3 2⟩,
 ⟨none,.load 40 39 1 false⟩,
 ⟨none,.len 41 (.t 40)⟩,
 ⟨none,.bin 42 .lss (.t 38) (.t 41)⟩])
 (.cond (.t 42)
 (.skip)
 (.exit 0)))
 (.seq (.block 1 (.seq (.reg [⟨none,.mov 45 (.t 10)⟩,
 ⟨none,.mov 46 (.t 8)⟩,
 ⟨none,.bin 47 .neq (.t 45) (.t 46)⟩])
 (.cond (.t 47)
 (.reg [⟨none,.chk []⟩,
 ⟨none,.mov 52 (.t 10)⟩,
 ⟨none,.fad 48 9 2⟩,
 ⟨none,.load 49 48 1 false⟩,
 ⟨none,.fad 50 3 2⟩,
 ⟨none,.load 51 50 1 false⟩,
 ⟨none,.idx 53 16 (.t 51) (.t 52)⟩,
 ⟨none,.load 54 53 6 true⟩,
 ⟨none,.call (some 55) 228 [(.t 54)] true⟩,
 ⟨none,.lit 56 16 1 [.int .u64 0,.int .u64 0,.int .i64 0,.int .i64 0,.nil,.nil] [(0,(.t 55))]⟩,
 ⟨none,.app 57 16 80 (.t 49) (.t 56)⟩,
 ⟨none,.fad 58 9 2⟩,
 ⟨none,.store 58 1 (.t 57)⟩])
 (.skip))))
 (.reg [⟨none,.mov 43 (.t 10)⟩,
 ⟨none,.bin 44 .add (.t 43) (.k (.int .i64 1))⟩,
 ⟨none,.mov 10 (.t 44)⟩]))
def r297:RF:=
 ⟨3,[.cell 6 3 true,.tmp 7],
 .seq (.reg [⟨none,.locb 3 (.t 0)⟩,
 ⟨none,.loc 6 [.int .i64 0,.int .i64 0,.nil]⟩,
 ⟨none,.mov 7 (.k (.bool false))⟩])
 (.seq (.reg [⟨none,.load 11 3 3 true⟩,
 ⟨none,.mov 12 (.t 1)⟩,
 ⟨none,.call (some 13) 210 [(.t 11),(.t 12),(.k (.int .i64 1))] false⟩,
 ⟨none,.mov 8 (.t 13)⟩])
 (.seq (.seq (.reg [⟨none,.load 14 3 3 true⟩,
 ⟨none,.call (some 15) 156 [(.t 14)] false⟩,
 ⟨none,.not 16 (.t 15)⟩,
 ⟨none,.mov 17 (.t 16)⟩,
 ⟨some (17,false),.mov 18 (.t 8)⟩,
 ⟨some (17,false),.bin 19 .lss (.t 18) (.k (.int .i64 0))⟩,
 ⟨none,.pick 20 (.t 17) (.k (.bool true)) (.t 19)⟩,
 ⟨none,.mov 21 (.t 20)⟩,
 ⟨some (21,false),.fad 22 3 2⟩,
 ⟨some (21,false),.load 23 22 1 false⟩,
 ⟨some (21,false),.mov 24 (.t 8)⟩,
 ⟨some (21,false),.idx 25 16 (.t 23) (.t 24)⟩,
 ⟨some (21,false),.fad 26 25 3⟩,
 ⟨some (21,false),.load 27 26 1 false⟩,
 ⟨some (21,false),.mov 28 (.t 2)⟩,
 ⟨some (21,false),.bin 29 .neq (.t 27) (.t 28)⟩,
 ⟨none,.pick 30 (.t 21) (.k (.bool true)) (.t 29)⟩])
 (.cond (.t 30)
 (.seq (.reg [⟨none,.load 31 3 3 true⟩,
 ⟨none,.call (some 32) 317 [(.t 31)] false⟩,
 ⟨none,.store 6 3 (.t 32)⟩,
 ⟨none,.mov 7 (.k (.bool false))⟩])
 (.ret))
 (.skip)))
 (.seq (.reg [⟨none,.fad 33 3 0⟩,
 ⟨none,.load 34 33 1 false⟩,
 ⟨none,.fad 35 3 1⟩,
 ⟨none,.load 36 35 1 false⟩,
 ⟨none,.build 37 [.int .i64 0,.int .i64 0,.nil] [(0,1,(.t 34)),(1,1,(.t 36))]⟩,
 ⟨none,.loc 9 [.int .i64 0,.int .i64 0,.nil]⟩,
 ⟨none,.store 9 3 (.t 37)⟩])
 (.seq (.seq (.reg [⟨none,.mov 10 (.k (.int .i64 0))⟩])
 (.block 0 (.loop [3,6,8,9,10]
 r297L0)))
 (.seq (.reg [⟨none,.load 59 9 3 true⟩,
 ⟨none,.store 6 3 (.t 59)⟩,
 ⟨none,.mov 7 (.k (.bool true))⟩])
 (.ret))))))⟩
def r300:RF:=
 ⟨3,[.cell 6 3 true,.tmp 7],
 .seq (.reg [⟨none,.locb 3 (.t 0)⟩,
 ⟨none,.loc 6 [.int .i64 0,.int .i64 0,.nil]⟩,
 ⟨none,.mov 7 (.k (.bool false))⟩])
 (.seq (.reg [⟨none,.load 10 3 3 true⟩,
 ⟨none,.call (some 11) 317 [(.t 10)] false⟩,
 ⟨none,.loc 8 [.int .i64 0,.int .i64 0,.nil]⟩,
 ⟨none,.store 8 3 (.t 11)⟩])
 (.seq (.reg [⟨none,.load 12 3 3 true⟩,
 ⟨none,.mov 13 (.t 1)⟩,
 ⟨none,.call (some 14) 210 [(.t 12),(.t 13),(.k (.int .i64 0))] false⟩,
 ⟨none,.mov 9 (.t 14)⟩])
 (.seq (.seq (.reg [⟨none,.load 15 3 3 true⟩,
 ⟨none,.mov 16 (.t 2)⟩,
 ⟨none,.call (some 17) 316 [(.t 15),(.t 16)] false⟩,
 ⟨none,.not 18 (.t 17)⟩,
 ⟨none,.mov 19 (.t 18)⟩,
 ⟨some (19,false),.mov 20 (.t 9)⟩,
 ⟨some (19,false),.bin 21 .lss (.t 20) (.k (.int .i64 0))⟩,
 ⟨none,.pick 22 (.t 19) (.k (.bool true)) (.t 21)⟩])
 (.cond (.t 22)
 (.seq (.reg [⟨none,.load 23 8 3 true⟩,
 ⟨none,.store 6 3 (.t 23)⟩,
 ⟨none,.mov 7 (.k (.bool false))⟩])
 (.ret))
 (.skip)))
 (.seq (.reg [⟨none,.fad 24 8 2⟩,
 ⟨none,.load 25 24 1 false⟩,
 ⟨none,.mov 26 (.t 9)⟩,
 ⟨none,.idx 27 16 (.t 25) (.t 26)⟩,
 ⟨none,.fad 28 27 2⟩,
 ⟨none,.store 28 1 (.k (.int .i64 1))⟩])
 (.seq (.reg [⟨none,.fad 29 8 2⟩,
 ⟨none,.load 30 29 1 false⟩,
 ⟨none,.mov 31 (.t 9)⟩,
 ⟨none,.mov 32 (.t 2)⟩,
 ⟨none,.idx 33 16 (.t 30) (.t 31)⟩,
 ⟨none,.fad 34 33 3⟩,
 ⟨none,.store 34 1 (.t 32)⟩])
 (.seq (.reg [⟨none,.load 35 8 3 true⟩,
 ⟨none,.mov 36 (.t 2)⟩,
 ⟨none,.call (some 37) 318 [(.t 35),(.t 36)] false⟩,
 ⟨none,.store 6 3 (.t 37)⟩,
 ⟨none,.mov 7 (.k (.bool true))⟩])
 (.ret)))))))⟩
def r308L0:RC:=
 .seq (.seq (.reg [⟨none,.mov 79 (.t 12)⟩,
 ⟨none,.fad 80 3 2⟩,
 ⟨none,.load 81 80 1 false⟩,
 ⟨none,.len 82 (.t 81)⟩,
 ⟨none,.bin 83 .lss (.t 79) (.t 82)⟩])
 (.cond (.t 83)
 (.skip)
 (.exit 2)))
 (.seq (.block 3 (.seq (.seq (.reg [⟨none,.chk []⟩,
 ⟨none,.mov 86 (.t 11)⟩,
 ⟨none,.not 87 (.t 86)⟩,
 ⟨none,.mov 88 (.t 87)⟩,
 ⟨some (88,true),.mov 91 (.t 12)⟩,
 ⟨some (88,true),.fad 89 3 2⟩,
 ⟨some (88,true),.load 90 89 1 false⟩,
 ⟨some (88,true),.idx 92 16 (.t 90) (.t 91)⟩,
 ⟨some (88,true),.fad 93 92 0⟩,
 ⟨some (88,true),.load 94 93 1 false⟩,
 ⟨some (88,true),.fad 95 10 0⟩,
 ⟨some (88,true),.load 96 95 1 false⟩,
 ⟨some (88,true),.bin 97 .gtr (.t 94) (.t 96)⟩,
 ⟨none,.pick 98 (.t 88) (.t 97) (.k (.bool false))⟩])
 (.cond (.t 98)
 (.seq (.reg [⟨none,.fad 99 9 2⟩,
 ⟨none,.load 100 99 1 false⟩,
 ⟨none,.load 101 10 6 true⟩,
 ⟨none,.lit 102 16 1 [.int .u64 0,.int .u64 0,.int .i64 0,.int .i64 0,.nil,.nil] [(0,(.t 101))]⟩,
 ⟨none,.app 103 16 80 (.t 100) (.t 102)⟩,
 ⟨none,.fad 104 9 2⟩,
 ⟨none,.store 104 1 (.t 103)⟩])
 (.reg [⟨none,.mov 11 (.k (.bool true))⟩]))
 (.skip)))
 (.reg [⟨none,.chk []⟩,
 ⟨none,.mov 109 (.t 12)⟩,
 ⟨none,.fad 105 9 2⟩,
 ⟨none,.load 106 105 1 false⟩,
 ⟨none,.fad 107 3 2⟩,
 ⟨none,.load 108 107 1 false⟩,
 ⟨none,.idx 110 16 (.t 108) (.t 109)⟩,
 ⟨none,.load 111 110 6 true⟩,
 ⟨none,.call (some 112) 228 [(.t 111)] true⟩,
 ⟨none,.lit 113 16 1 [.int .u64 0,.int .u64 0,.int .i64 0,.int .i64 0,.nil,.nil] [(0,(.t 112))]⟩,
 ⟨none,.app 114 16 80 (.t 106) (.t 113)⟩,
 ⟨none,.fad 115 9 2⟩,
 ⟨none,.store 115 1 (.t 114)⟩])))
 (.reg [⟨none,.mov 84 (.t 12)⟩,
 ⟨none,.bin 85 .add (.t 84) (.k (.int .i64 1))⟩,
 ⟨none,.mov 12 (.t 85)⟩]))
def r308L1:RC:=
 .seq (.seq (.reg [⟨none,.mov 41 (.t 8)⟩,
 ⟨none,.fad 42 3 2⟩,
 ⟨none,.load 43 42 1 false⟩,
 ⟨none,.len 44 (.t 43)⟩,
 ⟨none,.bin 45 .lss (.t 41) (.t 44)⟩])
 (.cond (.t 45)
 (.skip)
 (.exit 0)))
 (.seq (.block 1 (.seq (.reg [⟨none,.chk []⟩,
 ⟨none,.mov 50 (.t 8)⟩,
 ⟨none,.fad 48 3 2⟩,
 ⟨none,.load 49 48 1 false⟩,
 ⟨none,.idx 51 16 (.t 49) (.t 50)⟩,
 ⟨none,.fad 52 51 0⟩,
 ⟨none,.load 53 52 1 false⟩,
 ⟨none,.fad 54 4 1⟩,
 ⟨none,.load 55 54 1 false⟩,
 ⟨none,.bin 56 .leq (.t 53) (.t 55)⟩,
 ⟨none,.mov 57 (.t 56)⟩,
 ⟨some (57,true),.mov 62 (.t 8)⟩,
 ⟨some (57,true),.fad 58 4 0⟩,
 ⟨some (57,true),.load 59 58 1 false⟩,
 ⟨some (57,true),.fad 60 3 2⟩,
 ⟨some (57,true),.load 61 60 1 false⟩,
 ⟨some (57,true),.idx 63 16 (.t 61) (.t 62)⟩,
 ⟨some (57,true),.fad 64 63 1⟩,
 ⟨some (57,true),.load 65 64 1 false⟩,
 ⟨some (57,true),.bin 66 .leq (.t 59) (.t 65)⟩,
 ⟨none,.pick 67 (.t 57) (.t 66) (.k (.bool false))⟩])
 (.cond (.t 67)
 (.seq (.reg [⟨none,.load 68 3 3 true⟩,
 ⟨none,.call (some 69) 317 [(.t 68)] false⟩,
 ⟨none,.store 6 3 (.t 69)⟩,
 ⟨none,.mov 7 (.k (.bool false))⟩])
 (.ret))
 (.skip))))
 (.reg [⟨none,.mov 46 (.t 8)⟩,
 ⟨none,.bin 47 .add (.t 46) (.k (.int .i64 1))⟩,
 ⟨none,.mov 8 (.t 47)⟩]))
def r308:RF:=
 ⟨3,[.cell 6 3 true,.tmp 7],
 .seq (.reg [⟨none,.locb 3 (.t 0)⟩,
 ⟨none,.locb 4 (.t 1)⟩,
 ⟨none,.loc 6 [.int .i64 0,.int .i64 0,.nil]⟩,
 ⟨none,.mov 7 (.k (.bool false))⟩])
 (.seq (.seq (.reg [⟨none,.load 13 3 3 true⟩,
 ⟨none,.mov 14 (.t 2)⟩,
 ⟨none,.call (some 15) 316 [(.t 13),(.t 14)] false⟩,
 ⟨none,.not 16 (.t 15)⟩,
 ⟨none,.mov 17 (.t 16)⟩,
 ⟨some (17,false),.load 18 4 6 true⟩,
 ⟨some (17,false),.call (some 19) 204 [(.t 18)] false⟩,
 ⟨some (17,false),.not 20 (.t 19)⟩,
 ⟨none,.pick 21 (.t 17) (.k (.bool true)) (.t 20)⟩,
 ⟨none,.mov 22 (.t 21)⟩,
 ⟨some (22,false),.fad 23 4 2⟩,
 ⟨some (22,false),.load 24 23 1 false⟩,
 ⟨some (22,false),.bin 25 .neq (.t 24) (.k (.int .i64 1))⟩,
 ⟨none,.pick 26 (.t 22) (.k (.bool true)) (.t 25)⟩,
 ⟨none,.mov 27 (.t 26)⟩,
 ⟨some (27,false),.mov 28 (.t 2)⟩,
 ⟨some (27,false),.fad 29 4 3⟩,
 ⟨some (27,false),.load 30 29 1 false⟩,
 ⟨some (27,false),.bin 31 .leq (.t 28) (.t 30)⟩,
 ⟨none,.pick 32 (.t 27) (.k (.bool true)) (.t 31)⟩,
 ⟨none,.mov 33 (.t 32)⟩,
 ⟨some (33,false),.fad 34 3 2⟩,
 ⟨some (33,false),.load 35 34 1 false⟩,
 ⟨some (33,false),.len 36 (.t 35)⟩,
 ⟨some (33,false),.bin 37 .eql (.t 36) (.k (.int .i64 8))⟩,
 ⟨none,.pick 38 (.t 33) (.k (.bool true)) (.t 37)⟩])
 (.cond (.t 38)
 (.seq (.reg [⟨none,.load 39 3 3 true⟩,
 ⟨none,.call (some 40) 317 [(.t 39)] false⟩,
 ⟨none,.store 6 3 (.t 40)⟩,
 ⟨none,.mov 7 (.k (.bool false))⟩])
 (.ret))
 (.skip)))
 (.seq (.seq (.reg [⟨none,.mov 8 (.k (.int .i64 0))⟩])
 (.block 0 (.loop [2,3,4,6,8]
 r308L1)))
 (.seq (.reg [⟨none,.fad 70 3 0⟩,
 ⟨none,.load 71 70 1 false⟩,
 ⟨none,.mov 72 (.t 2)⟩,
 ⟨none,.build 73 [.int .i64 0,.int .i64 0,.nil] [(0,1,(.t 71)),(1,1,(.t 72))]⟩,
 ⟨none,.loc 9 [.int .i64 0,.int .i64 0,.nil]⟩,
 ⟨none,.store 9 3 (.t 73)⟩])
 (.seq (.reg [⟨none,.load 74 4 6 true⟩,
 ⟨none,.call (some 75) 228 [(.t 74)] false⟩,
 ⟨none,.loc 10 [.int .u64 0,.int .u64 0,.int .i64 0,.int .i64 0,.nil,.nil]⟩,
 ⟨none,.store 10 6 (.t 75)⟩])
 (.seq (.reg [⟨none,.fad 76 10 2⟩,
 ⟨none,.store 76 1 (.k (.int .i64 0))⟩])
 (.seq (.reg [⟨none,.mov 77 (.t 2)⟩,
 ⟨none,.fad 78 10 3⟩,
 ⟨none,.store 78 1 (.t 77)⟩])
 (.seq (.reg [⟨none,.mov 11 (.k (.bool false))⟩])
 (.seq (.seq (.reg [⟨none,.mov 12 (.k (.int .i64 0))⟩])
 (.block 2 (.loop [2,3,6,9,10,11,12]
 r308L0)))
 (.seq (.seq (.reg [⟨none,.mov 116 (.t 11)⟩,
 ⟨none,.not 117 (.t 116)⟩])
 (.cond (.t 117)
 (.reg [⟨none,.fad 118 9 2⟩,
 ⟨none,.load 119 118 1 false⟩,
 ⟨none,.load 120 10 6 true⟩,
 ⟨none,.lit 121 16 1 [.int .u64 0,.int .u64 0,.int .i64 0,.int .i64 0,.nil,.nil] [(0,(.t 120))]⟩,
 ⟨none,.app 122 16 80 (.t 119) (.t 121)⟩,
 ⟨none,.fad 123 9 2⟩,
 ⟨none,.store 123 1 (.t 122)⟩])
 (.skip)))
 (.seq (.reg [⟨none,.load 124 9 3 true⟩,
 ⟨none,.mov 125 (.t 2)⟩,
 ⟨none,.call (some 126) 318 [(.t 124),(.t 125)] false⟩,
 ⟨none,.store 6 3 (.t 126)⟩,
 ⟨none,.mov 7 (.k (.bool true))⟩])
 (.ret)))))))))))⟩
def r311L0:RC:=
 .seq (.seq (.reg [⟨none,.mov 54 (.t 10)⟩,
 ⟨none,.fad 55 3 2⟩,
 ⟨none,.load 56 55 1 false⟩,
 ⟨none,.len 57 (.t 56)⟩,
 ⟨none,.bin 58 .lss (.t 54) (.t 57)⟩])
 (.cond (.t 58)
 (.skip)
 (.exit 0)))
 (.seq (.block 1 (.seq (.reg [⟨none,.fad 61 3 2⟩,
 ⟨none,.load 62 61 1 false⟩,
 ⟨none,.mov 63 (.t 10)⟩,
 ⟨none,.idx 64 16 (.t 62) (.t 63)⟩,
 ⟨none,.load 65 64 6 true⟩,
 ⟨none,.loc 11 [.int .u64 0,.int .u64 0,.int .i64 0,.int .i64 0,.nil,.nil]⟩,
 ⟨none,.store 11 6 (.t 65)⟩])
 (.seq (.reg [⟨none,.mov 66 (.t 10)⟩,
 ⟨none,.mov 67 (.t 8)⟩,
 ⟨none,.bin 68 .eql (.t 66) (.t 67)⟩])
 (.cond (.t 68)
 (.seq (.reg [⟨none,.chk []⟩,
 ⟨none,.mov 74 (.t 1)⟩,
 ⟨none,.bin 75 .sub (.t 74) (.k (.int .u64 1))⟩,
 ⟨none,.mov 76 (.t 2)⟩,
 ⟨none,.fad 69 9 2⟩,
 ⟨none,.load 70 69 1 false⟩,
 ⟨none,.load 71 11 6 true⟩,
 ⟨none,.fad 72 11 0⟩,
 ⟨none,.load 73 72 1 false⟩,
 ⟨none,.call (some 77) 333 [(.t 71),(.t 73),(.t 75),(.t 76)] true⟩,
 ⟨none,.lit 78 16 1 [.int .u64 0,.int .u64 0,.int .i64 0,.int .i64 0,.nil,.nil] [(0,(.t 77))]⟩,
 ⟨none,.app 79 16 80 (.t 70) (.t 78)⟩,
 ⟨none,.fad 80 9 2⟩,
 ⟨none,.store 80 1 (.t 79)⟩])
 (.reg [⟨none,.chk []⟩,
 ⟨none,.mov 84 (.t 1)⟩,
 ⟨none,.mov 87 (.t 2)⟩,
 ⟨none,.fad 81 9 2⟩,
 ⟨none,.load 82 81 1 false⟩,
 ⟨none,.load 83 11 6 true⟩,
 ⟨none,.fad 85 11 1⟩,
 ⟨none,.load 86 85 1 false⟩,
 ⟨none,.call (some 88) 333 [(.t 83),(.t 84),(.t 86),(.t 87)] true⟩,
 ⟨none,.lit 89 16 1 [.int .u64 0,.int .u64 0,.int .i64 0,.int .i64 0,.nil,.nil] [(0,(.t 88))]⟩,
 ⟨none,.app 90 16 80 (.t 82) (.t 89)⟩,
 ⟨none,.fad 91 9 2⟩,
 ⟨none,.store 91 1 (.t 90)⟩]))
 (.reg [⟨none,.chk []⟩,
 ⟨none,.fad 92 9 2⟩,
 ⟨none,.load 93 92 1 false⟩,
 ⟨none,.load 94 11 6 true⟩,
 ⟨none,.call (some 95) 228 [(.t 94)] true⟩,
 ⟨none,.lit 96 16 1 [.int .u64 0,.int .u64 0,.int .i64 0,.int .i64 0,.nil,.nil] [(0,(.t 95))]⟩,
 ⟨none,.app 97 16 80 (.t 93) (.t 96)⟩,
 ⟨none,.fad 98 9 2⟩,
 ⟨none,.store 98 1 (.t 97)⟩])))))
 (.reg [⟨none,.mov 59 (.t 10)⟩,
 ⟨none,.bin 60 .add (.t 59) (.k (.int .i64 1))⟩,
 ⟨none,.mov 10 (.t 60)⟩]))
def r311:RF:=
 ⟨3,[.cell 6 3 true,.tmp 7],
 .seq (.reg [⟨none,.locb 3 (.t 0)⟩,
 ⟨none,.loc 6 [.int .i64 0,.int .i64 0,.nil]⟩,
 ⟨none,.mov 7 (.k (.bool false))⟩])
 (.seq (.reg [⟨none,.load 12 3 3 true⟩,
 ⟨none,.mov 13 (.t 1)⟩,
 ⟨none,.call (some 14) 211 [(.t 12),(.t 13)] false⟩,
 ⟨none,.mov 8 (.t 14)⟩])
 (.seq (.seq (.reg [⟨none,.load 15 3 3 true⟩,
 ⟨none,.mov 16 (.t 2)⟩,
 ⟨none,.call (some 17) 316 [(.t 15),(.t 16)] false⟩,
 ⟨none,.not 18 (.t 17)⟩,
 ⟨none,.mov 19 (.t 18)⟩,
 ⟨some (19,false),.mov 20 (.t 8)⟩,
 ⟨some (19,false),.bin 21 .lss (.t 20) (.k (.int .i64 0))⟩,
 ⟨none,.pick 22 (.t 19) (.k (.bool true)) (.t 21)⟩,
 ⟨none,.mov 23 (.t 22)⟩,
 ⟨some (23,false),.fad 24 3 2⟩,
 ⟨some (23,false),.load 25 24 1 false⟩,
 ⟨some (23,false),.mov 26 (.t 8)⟩,
 ⟨some (23,false),.idx 27 16 (.t 25) (.t 26)⟩,
 ⟨some (23,false),.fad 28 27 0⟩,
 ⟨some (23,false),.load 29 28 1 false⟩,
 ⟨some (23,false),.mov 30 (.t 1)⟩,
 ⟨some (23,false),.bin 31 .eql (.t 29) (.t 30)⟩,
 ⟨none,.pick 32 (.t 23) (.k (.bool true)) (.t 31)⟩,
 ⟨none,.mov 33 (.t 32)⟩,
 ⟨some (33,false),.fad 34 3 2⟩,
 ⟨some (33,false),.load 35 34 1 false⟩,
 ⟨some (33,false),.mov 36 (.t 8)⟩,
 ⟨some (33,false),.idx 37 16 (.t 35) (.t 36)⟩,
 ⟨some (33,false),.fad 38 37 2⟩,
 ⟨some (33,false),.load 39 38 1 false⟩,
 ⟨some (33,false),.bin 40 .neq (.t 39) (.k (.int .i64 0))⟩,
 ⟨none,.pick 41 (.t 33) (.k (.bool true)) (.t 40)⟩,
 ⟨none,.mov 42 (.t 41)⟩,
 ⟨some (42,false),.fad 43 3 2⟩,
 ⟨some (42,false),.load 44 43 1 false⟩,
 ⟨some (42,false),.len 45 (.t 44)⟩,
 ⟨some (42,false),.bin 46 .eql (.t 45) (.k (.int .i64 8))⟩,
 ⟨none,.pick 47 (.t 42) (.k (.bool true)) (.t 46)⟩])
 (.cond (.t 47)
 (.seq (.reg [⟨none,.load 48 3 3 true⟩,
 ⟨none,.call (some 49) 317 [(.t 48)] false⟩,
 ⟨none,.store 6 3 (.t 49)⟩,
 ⟨none,.mov 7 (.k (.bool false))⟩])
 (.ret))
 (.skip)))
 (.seq (.reg [⟨none,.fad 50 3 0⟩,
 ⟨none,.load 51 50 1 false⟩,
 ⟨none,.mov 52 (.t 2)⟩,
 ⟨none,.build 53 [.int .i64 0,.int .i64 0,.nil] [(0,1,(.t 51)),(1,1,(.t 52))]⟩,
 ⟨none,.loc 9 [.int .i64 0,.int .i64 0,.nil]⟩,
 ⟨none,.store 9 3 (.t 53)⟩])
 (.seq (.seq (.reg [⟨none,.mov 10 (.k (.int .i64 0))⟩])
 (.block 0 (.loop [1,2,3,6,8,9,10]
 r311L0)))
 (.seq (.reg [⟨none,.load 99 9 3 true⟩,
 ⟨none,.mov 100 (.t 2)⟩,
 ⟨none,.call (some 101) 318 [(.t 99),(.t 100)] false⟩,
 ⟨none,.store 6 3 (.t 101)⟩,
 ⟨none,.mov 7 (.k (.bool true))⟩])
 (.ret))))))⟩
def r316:RF:=
 ⟨2,[.tmp 4],
 .seq (.reg [⟨none,.locb 2 (.t 0)⟩,
 ⟨none,.mov 4 (.k (.bool false))⟩])
 (.seq (.reg [⟨none,.load 5 2 3 true⟩,
 ⟨none,.call (some 6) 156 [(.t 5)] false⟩,
 ⟨none,.mov 7 (.t 6)⟩,
 ⟨some (7,true),.mov 8 (.t 1)⟩,
 ⟨some (7,true),.fad 9 2 1⟩,
 ⟨some (7,true),.load 10 9 1 false⟩,
 ⟨some (7,true),.bin 11 .add (.t 10) (.k (.int .i64 1))⟩,
 ⟨some (7,true),.call (some 12) 5 [(.t 8),(.t 11),(.k (.int .i64 1000000))] false⟩,
 ⟨none,.pick 13 (.t 7) (.t 12) (.k (.bool false))⟩,
 ⟨none,.mov 4 (.t 13)⟩])
 (.ret))⟩
def r317L0:RC:=
 .seq (.seq (.reg [⟨none,.mov 10 (.t 4)⟩,
 ⟨none,.fad 11 1 2⟩,
 ⟨none,.load 12 11 1 false⟩,
 ⟨none,.len 13 (.t 12)⟩,
 ⟨none,.bin 14 .lss (.t 10) (.t 13)⟩])
 (.cond (.t 14)
 (.skip)
 (.exit 0)))
 (.seq (.block 1 (.reg [⟨none,.chk []⟩,
 ⟨none,.mov 21 (.t 4)⟩,
 ⟨none,.fad 17 3 2⟩,
 ⟨none,.load 18 17 1 false⟩,
 ⟨none,.fad 19 1 2⟩,
 ⟨none,.load 20 19 1 false⟩,
 ⟨none,.idx 22 16 (.t 20) (.t 21)⟩,
 ⟨none,.load 23 22 6 true⟩,
 ⟨none,.call (some 24) 228 [(.t 23)] true⟩,
 ⟨none,.lit 25 16 1 [.int .u64 0,.int .u64 0,.int .i64 0,.int .i64 0,.nil,.nil] [(0,(.t 24))]⟩,
 ⟨none,.app 26 16 80 (.t 18) (.t 25)⟩,
 ⟨none,.fad 27 3 2⟩,
 ⟨none,.store 27 1 (.t 26)⟩]))
 (.reg [⟨none,.mov 15 (.t 4)⟩,
 ⟨none,.bin 16 .add (.t 15) (.k (.int .i64 1))⟩,
 ⟨none,.mov 4 (.t 16)⟩]))
def r317:RF:=
 ⟨1,[.cell 2 3 true],
 .seq (.reg [⟨none,.locb 1 (.t 0)⟩,
 ⟨none,.loc 2 [.int .i64 0,.int .i64 0,.nil]⟩])
 (.seq (.reg [⟨none,.fad 5 1 0⟩,
 ⟨none,.load 6 5 1 false⟩,
 ⟨none,.fad 7 1 1⟩,
 ⟨none,.load 8 7 1 false⟩,
 ⟨none,.build 9 [.int .i64 0,.int .i64 0,.nil] [(0,1,(.t 6)),(1,1,(.t 8))]⟩,
 ⟨none,.loc 3 [.int .i64 0,.int .i64 0,.nil]⟩,
 ⟨none,.store 3 3 (.t 9)⟩])
 (.seq (.seq (.reg [⟨none,.mov 4 (.k (.int .i64 0))⟩])
 (.block 0 (.loop [1,2,3,4]
 r317L0)))
 (.seq (.reg [⟨none,.load 28 3 3 true⟩,
 ⟨none,.store 2 3 (.t 28)⟩])
 (.ret))))⟩
def r318L0:RC:=
 .seq (.seq (.reg [⟨none,.mov 11 (.t 6)⟩,
 ⟨none,.fad 12 5 2⟩,
 ⟨none,.load 13 12 1 false⟩,
 ⟨none,.len 14 (.t 13)⟩,
 ⟨none,.bin 15 .lss (.t 11) (.t 14)⟩])
 (.cond (.t 15)
 (.skip)
 (.exit 0)))
 (.seq (.block 1 (.seq (.reg [⟨none,.fad 18 5 2⟩,
 ⟨none,.load 19 18 1 false⟩,
 ⟨none,.mov 20 (.t 6)⟩,
 ⟨none,.idx 21 16 (.t 19) (.t 20)⟩,
 ⟨none,.fad 22 21 2⟩,
 ⟨none,.load 23 22 1 false⟩,
 ⟨none,.bin 24 .eql (.t 23) (.k (.int .i64 0))⟩])
 (.cond (.t 24)
 (.reg [⟨none,.fad 25 5 2⟩,
 ⟨none,.load 26 25 1 false⟩,
 ⟨none,.mov 27 (.t 6)⟩,
 ⟨none,.mov 28 (.t 1)⟩,
 ⟨none,.idx 29 16 (.t 26) (.t 27)⟩,
 ⟨none,.fad 30 29 3⟩,
 ⟨none,.store 30 1 (.t 28)⟩])
 (.skip))))
 (.reg [⟨none,.mov 16 (.t 6)⟩,
 ⟨none,.bin 17 .add (.t 16) (.k (.int .i64 1))⟩,
 ⟨none,.mov 6 (.t 17)⟩]))
def r318:RF:=
 ⟨2,[.cell 4 3 true],
 .seq (.reg [⟨none,.locb 2 (.t 0)⟩,
 ⟨none,.loc 4 [.int .i64 0,.int .i64 0,.nil]⟩])
 (.seq (.reg [⟨none,.load 7 2 3 true⟩,
 ⟨none,.call (some 8) 317 [(.t 7)] false⟩,
 ⟨none,.loc 5 [.int .i64 0,.int .i64 0,.nil]⟩,
 ⟨none,.store 5 3 (.t 8)⟩])
 (.seq (.reg [⟨none,.mov 9 (.t 1)⟩,
 ⟨none,.fad 10 5 1⟩,
 ⟨none,.store 10 1 (.t 9)⟩])
 (.seq (.seq (.reg [⟨none,.mov 6 (.k (.int .i64 0))⟩])
 (.block 0 (.loop [1,4,5,6]
 r318L0)))
 (.seq (.reg [⟨none,.load 31 5 3 true⟩,
 ⟨none,.store 4 3 (.t 31)⟩])
 (.ret)))))⟩
def r333L0:RC:=
 .seq (.seq (.reg [⟨none,.mov 59 (.t 11)⟩,
 ⟨none,.fad 60 4 5⟩,
 ⟨none,.load 61 60 1 false⟩,
 ⟨none,.len 62 (.t 61)⟩,
 ⟨none,.bin 63 .lss (.t 59) (.t 62)⟩])
 (.cond (.t 63)
 (.skip)
 (.exit 2)))
 (.seq (.block 3 (.seq (.reg [⟨none,.fad 66 4 5⟩,
 ⟨none,.load 67 66 1 false⟩,
 ⟨none,.mov 68 (.t 11)⟩,
 ⟨none,.idx 69 9 (.t 67) (.t 68)⟩,
 ⟨none,.fad 70 69 1⟩,
 ⟨none,.load 71 70 1 false⟩,
 ⟨none,.mov 72 (.t 1)⟩,
 ⟨none,.bin 73 .geq (.t 71) (.t 72)⟩,
 ⟨none,.mov 74 (.t 73)⟩,
 ⟨some (74,true),.fad 75 4 5⟩,
 ⟨some (74,true),.load 76 75 1 false⟩,
 ⟨some (74,true),.mov 77 (.t 11)⟩,
 ⟨some (74,true),.idx 78 9 (.t 76) (.t 77)⟩,
 ⟨some (74,true),.fad 79 78 1⟩,
 ⟨some (74,true),.load 80 79 1 false⟩,
 ⟨some (74,true),.mov 81 (.t 2)⟩,
 ⟨some (74,true),.bin 82 .leq (.t 80) (.t 81)⟩,
 ⟨none,.pick 83 (.t 74) (.t 82) (.k (.bool false))⟩])
 (.cond (.t 83)
 (.reg [⟨none,.chk []⟩,
 ⟨none,.mov 88 (.t 11)⟩,
 ⟨none,.fad 84 9 5⟩,
 ⟨none,.load 85 84 1 false⟩,
 ⟨none,.fad 86 4 5⟩,
 ⟨none,.load 87 86 1 false⟩,
 ⟨none,.idx 89 9 (.t 87) (.t 88)⟩,
 ⟨none,.load 90 89 2 true⟩,
 ⟨none,.lit 91 9 1 [.int .i64 0,.int .u64 0] [(0,(.t 90))]⟩,
 ⟨none,.app 92 9 16 (.t 85) (.t 91)⟩,
 ⟨none,.fad 93 9 5⟩,
 ⟨none,.store 93 1 (.t 92)⟩])
 (.skip))))
 (.reg [⟨none,.mov 64 (.t 11)⟩,
 ⟨none,.bin 65 .add (.t 64) (.k (.int .i64 1))⟩,
 ⟨none,.mov 11 (.t 65)⟩]))
def r333L1:RC:=
 .seq (.seq (.reg [⟨none,.mov 18 (.t 10)⟩,
 ⟨none,.fad 19 4 4⟩,
 ⟨none,.fad 20 19 0⟩,
 ⟨none,.load 21 20 1 false⟩,
 ⟨none,.len 22 (.t 21)⟩,
 ⟨none,.bin 23 .lss (.t 18) (.t 22)⟩])
 (.cond (.t 23)
 (.skip)
 (.exit 0)))
 (.seq (.block 1 (.seq (.reg [⟨none,.fad 26 4 4⟩,
 ⟨none,.fad 27 26 0⟩,
 ⟨none,.load 28 27 1 false⟩,
 ⟨none,.mov 29 (.t 10)⟩,
 ⟨none,.idx 30 11 (.t 28) (.t 29)⟩,
 ⟨none,.fad 31 30 0⟩,
 ⟨none,.load 32 31 1 false⟩,
 ⟨none,.mov 33 (.t 1)⟩,
 ⟨none,.bin 34 .geq (.t 32) (.t 33)⟩,
 ⟨none,.mov 35 (.t 34)⟩,
 ⟨some (35,true),.fad 36 4 4⟩,
 ⟨some (35,true),.fad 37 36 0⟩,
 ⟨some (35,true),.load 38 37 1 false⟩,
 ⟨some (35,true),.mov 39 (.t 10)⟩,
 ⟨some (35,true),.idx 40 11 (.t 38) (.t 39)⟩,
 ⟨some (35,true),.fad 41 40 0⟩,
 ⟨some (35,true),.load 42 41 1 false⟩,
 ⟨some (35,true),.mov 43 (.t 2)⟩,
 ⟨some (35,true),.bin 44 .leq (.t 42) (.t 43)⟩,
 ⟨none,.pick 45 (.t 35) (.t 44) (.k (.bool false))⟩])
 (.cond (.t 45)
 (.reg [⟨none,.chk []⟩,
 ⟨none,.mov 52 (.t 10)⟩,
 ⟨none,.fad 46 9 4⟩,
 ⟨none,.fad 47 46 0⟩,
 ⟨none,.load 48 47 1 false⟩,
 ⟨none,.fad 49 4 4⟩,
 ⟨none,.fad 50 49 0⟩,
 ⟨none,.load 51 50 1 false⟩,
 ⟨none,.idx 53 11 (.t 51) (.t 52)⟩,
 ⟨none,.load 54 53 5 true⟩,
 ⟨none,.lit 55 11 1 [.int .u64 0,.int .u64 0,.int .u64 0,.int .u64 0,.int .i64 0] [(0,(.t 54))]⟩,
 ⟨none,.app 56 11 40 (.t 48) (.t 55)⟩,
 ⟨none,.fad 57 9 4⟩,
 ⟨none,.fad 58 57 0⟩,
 ⟨none,.store 58 1 (.t 56)⟩])
 (.skip))))
 (.reg [⟨none,.mov 24 (.t 10)⟩,
 ⟨none,.bin 25 .add (.t 24) (.k (.int .i64 1))⟩,
 ⟨none,.mov 10 (.t 25)⟩]))
def r333:RF:=
 ⟨4,[.cell 8 6 true],
 .seq (.reg [⟨none,.locb 4 (.t 0)⟩,
 ⟨none,.loc 8 [.int .u64 0,.int .u64 0,.int .i64 0,.int .i64 0,.nil,.nil]⟩])
 (.seq (.reg [⟨none,.mov 12 (.t 1)⟩,
 ⟨none,.mov 13 (.t 2)⟩,
 ⟨none,.fad 14 4 2⟩,
 ⟨none,.load 15 14 1 false⟩,
 ⟨none,.mov 16 (.t 3)⟩,
 ⟨none,.build 17 [.int .u64 0,.int .u64 0,.int .i64 0,.int .i64 0,.nil,.nil] [(0,1,(.t 12)),(1,1,(.t 13)),(2,1,(.t 15)),(3,1,(.t 16))]⟩,
 ⟨none,.loc 9 [.int .u64 0,.int .u64 0,.int .i64 0,.int .i64 0,.nil,.nil]⟩,
 ⟨none,.store 9 6 (.t 17)⟩])
 (.seq (.seq (.reg [⟨none,.mov 10 (.k (.int .i64 0))⟩])
 (.block 0 (.loop [1,2,4,8,9,10]
 r333L1)))
 (.seq (.seq (.reg [⟨none,.mov 11 (.k (.int .i64 0))⟩])
 (.block 2 (.loop [1,2,4,8,9,11]
 r333L0)))
 (.seq (.reg [⟨none,.load 94 9 6 true⟩,
 ⟨none,.store 8 6 (.t 94)⟩])
 (.ret)))))⟩
def r364L0:RC:=
 .seq (.seq (.reg [⟨none,.mov 132 (.t 15)⟩,
 ⟨none,.fad 133 3 2⟩,
 ⟨none,.load 134 133 1 false⟩,
 ⟨none,.len 135 (.t 134)⟩,
 ⟨none,.bin 136 .lss (.t 132) (.t 135)⟩])
 (.cond (.t 136)
 (.skip)
 (.exit 4)))
 (.seq (.block 5 (.seq (.reg [⟨none,.mov 139 (.t 15)⟩,
 ⟨none,.mov 140 (.t 8)⟩,
 ⟨none,.bin 141 .sub (.t 140) (.k (.int .i64 1))⟩,
 ⟨none,.bin 142 .eql (.t 139) (.t 141)⟩])
 (.cond (.t 142)
 (.reg [⟨none,.fad 143 14 2⟩,
 ⟨none,.load 144 143 1 false⟩,
 ⟨none,.load 145 11 6 true⟩,
 ⟨none,.lit 146 16 1 [.int .u64 0,.int .u64 0,.int .i64 0,.int .i64 0,.nil,.nil] [(0,(.t 145))]⟩,
 ⟨none,.app 147 16 80 (.t 144) (.t 146)⟩,
 ⟨none,.fad 148 14 2⟩,
 ⟨none,.store 148 1 (.t 147)⟩])
 (.seq (.reg [⟨none,.mov 149 (.t 15)⟩,
 ⟨none,.mov 150 (.t 8)⟩,
 ⟨none,.bin 151 .neq (.t 149) (.t 150)⟩])
 (.cond (.t 151)
 (.reg [⟨none,.chk []⟩,
 ⟨none,.mov 156 (.t 15)⟩,
 ⟨none,.fad 152 14 2⟩,
 ⟨none,.load 153 152 1 false⟩,
 ⟨none,.fad 154 3 2⟩,
 ⟨none,.load 155 154 1 false⟩,
 ⟨none,.idx 157 16 (.t 155) (.t 156)⟩,
 ⟨none,.load 158 157 6 true⟩,
 ⟨none,.call (some 159) 228 [(.t 158)] true⟩,
 ⟨none,.lit 160 16 1 [.int .u64 0,.int .u64 0,.int .i64 0,.int .i64 0,.nil,.nil] [(0,(.t 159))]⟩,
 ⟨none,.app 161 16 80 (.t 153) (.t 160)⟩,
 ⟨none,.fad 162 14 2⟩,
 ⟨none,.store 162 1 (.t 161)⟩])
 (.skip))))))
 (.reg [⟨none,.mov 137 (.t 15)⟩,
 ⟨none,.bin 138 .add (.t 137) (.k (.int .i64 1))⟩,
 ⟨none,.mov 15 (.t 138)⟩]))
def r364L1:RC:=
 .seq (.seq (.reg [⟨none,.mov 112 (.t 13)⟩,
 ⟨none,.fad 113 10 5⟩,
 ⟨none,.load 114 113 1 false⟩,
 ⟨none,.len 115 (.t 114)⟩,
 ⟨none,.bin 116 .lss (.t 112) (.t 115)⟩])
 (.cond (.t 116)
 (.skip)
 (.exit 2)))
 (.seq (.block 3 (.reg [⟨none,.chk []⟩,
 ⟨none,.mov 123 (.t 13)⟩,
 ⟨none,.fad 119 11 5⟩,
 ⟨none,.load 120 119 1 false⟩,
 ⟨none,.fad 121 10 5⟩,
 ⟨none,.load 122 121 1 false⟩,
 ⟨none,.idx 124 9 (.t 122) (.t 123)⟩,
 ⟨none,.load 125 124 2 true⟩,
 ⟨none,.call (some 126) 374 [(.t 120),(.t 125)] true⟩,
 ⟨none,.fad 127 11 5⟩,
 ⟨none,.store 127 1 (.t 126)⟩]))
 (.reg [⟨none,.mov 117 (.t 13)⟩,
 ⟨none,.bin 118 .add (.t 117) (.k (.int .i64 1))⟩,
 ⟨none,.mov 13 (.t 118)⟩]))
def r364L2:RC:=
 .seq (.seq (.reg [⟨none,.mov 91 (.t 12)⟩,
 ⟨none,.fad 92 10 4⟩,
 ⟨none,.fad 93 92 0⟩,
 ⟨none,.load 94 93 1 false⟩,
 ⟨none,.len 95 (.t 94)⟩,
 ⟨none,.bin 96 .lss (.t 91) (.t 95)⟩])
 (.cond (.t 96)
 (.skip)
 (.exit 0)))
 (.seq (.block 1 (.reg [⟨none,.chk []⟩,
 ⟨none,.mov 105 (.t 12)⟩,
 ⟨none,.fad 99 11 4⟩,
 ⟨none,.fad 100 99 0⟩,
 ⟨none,.load 101 100 1 false⟩,
 ⟨none,.fad 102 10 4⟩,
 ⟨none,.fad 103 102 0⟩,
 ⟨none,.load 104 103 1 false⟩,
 ⟨none,.idx 106 11 (.t 104) (.t 105)⟩,
 ⟨none,.load 107 106 5 true⟩,
 ⟨none,.lit 108 11 1 [.int .u64 0,.int .u64 0,.int .u64 0,.int .u64 0,.int .i64 0] [(0,(.t 107))]⟩,
 ⟨none,.app 109 11 40 (.t 101) (.t 108)⟩,
 ⟨none,.fad 110 11 4⟩,
 ⟨none,.fad 111 110 0⟩,
 ⟨none,.store 111 1 (.t 109)⟩]))
 (.reg [⟨none,.mov 97 (.t 12)⟩,
 ⟨none,.bin 98 .add (.t 97) (.k (.int .i64 1))⟩,
 ⟨none,.mov 12 (.t 98)⟩]))
def r364:RF:=
 ⟨3,[.cell 6 3 true,.tmp 7],
 .seq (.reg [⟨none,.locb 3 (.t 0)⟩,
 ⟨none,.loc 6 [.int .i64 0,.int .i64 0,.nil]⟩,
 ⟨none,.mov 7 (.k (.bool false))⟩])
 (.seq (.reg [⟨none,.load 16 3 3 true⟩,
 ⟨none,.mov 17 (.t 1)⟩,
 ⟨none,.call (some 18) 210 [(.t 16),(.t 17),(.k (.int .i64 0))] false⟩,
 ⟨none,.mov 8 (.t 18)⟩])
 (.seq (.seq (.reg [⟨none,.load 19 3 3 true⟩,
 ⟨none,.mov 20 (.t 2)⟩,
 ⟨none,.call (some 21) 316 [(.t 19),(.t 20)] false⟩,
 ⟨none,.not 22 (.t 21)⟩,
 ⟨none,.mov 23 (.t 22)⟩,
 ⟨some (23,false),.mov 24 (.t 8)⟩,
 ⟨some (23,false),.bin 25 .lss (.t 24) (.k (.int .i64 1))⟩,
 ⟨none,.pick 26 (.t 23) (.k (.bool true)) (.t 25)⟩,
 ⟨none,.mov 27 (.t 26)⟩,
 ⟨some (27,false),.fad 28 3 2⟩,
 ⟨some (27,false),.load 29 28 1 false⟩,
 ⟨some (27,false),.mov 30 (.t 8)⟩,
 ⟨some (27,false),.bin 31 .sub (.t 30) (.k (.int .i64 1))⟩,
 ⟨some (27,false),.idx 32 16 (.t 29) (.t 31)⟩,
 ⟨some (27,false),.fad 33 32 2⟩,
 ⟨some (27,false),.load 34 33 1 false⟩,
 ⟨some (27,false),.bin 35 .neq (.t 34) (.k (.int .i64 0))⟩,
 ⟨none,.pick 36 (.t 27) (.k (.bool true)) (.t 35)⟩,
 ⟨none,.mov 37 (.t 36)⟩,
 ⟨some (37,false),.fad 38 3 2⟩,
 ⟨some (37,false),.load 39 38 1 false⟩,
 ⟨some (37,false),.mov 40 (.t 8)⟩,
 ⟨some (37,false),.bin 41 .sub (.t 40) (.k (.int .i64 1))⟩,
 ⟨some (37,false),.idx 42 16 (.t 39) (.t 41)⟩,
 ⟨some (37,false),.fad 43 42 1⟩,
 ⟨some (37,false),.load 44 43 1 false⟩,
 ⟨some (37,false),.mov 45 (.t 1)⟩,
 ⟨some (37,false),.bin 46 .sub (.t 45) (.k (.int .u64 1))⟩,
 ⟨some (37,false),.bin 47 .neq (.t 44) (.t 46)⟩,
 ⟨none,.pick 48 (.t 37) (.k (.bool true)) (.t 47)⟩])
 (.cond (.t 48)
 (.seq (.reg [⟨none,.load 49 3 3 true⟩,
 ⟨none,.call (some 50) 317 [(.t 49)] false⟩,
 ⟨none,.store 6 3 (.t 50)⟩,
 ⟨none,.mov 7 (.k (.bool false))⟩])
 (.ret))
 (.skip)))
 (.seq (.reg [⟨none,.chk [9,10]⟩,
 ⟨none,.own [9]⟩,
 ⟨none,.loc 9 [.int .u64 0,.int .u64 0,.int .i64 0,.int .i64 0,.nil,.nil]⟩,
 ⟨none,.loc 10 [.int .u64 0,.int .u64 0,.int .i64 0,.int .i64 0,.nil,.nil]⟩,
 ⟨none,.mov 53 (.t 8)⟩,
 ⟨none,.bin 54 .sub (.t 53) (.k (.int .i64 1))⟩,
 ⟨none,.mov 59 (.t 8)⟩,
 ⟨none,.fad 51 3 2⟩,
 ⟨none,.load 52 51 1 false⟩,
 ⟨none,.idx 55 16 (.t 52) (.t 54)⟩,
 ⟨none,.load 56 55 6 true⟩,
 ⟨none,.fad 57 3 2⟩,
 ⟨none,.load 58 57 1 false⟩,
 ⟨none,.idx 60 16 (.t 58) (.t 59)⟩,
 ⟨none,.load 61 60 6 true⟩,
 ⟨none,.lst 9 6 (.t 56)⟩,
 ⟨none,.store 10 6 (.t 61)⟩])
 (.seq (.seq (.reg [⟨none,.fad 62 9 4⟩,
 ⟨none,.fad 63 62 0⟩,
 ⟨none,.load 64 63 1 false⟩,
 ⟨none,.len 65 (.t 64)⟩,
 ⟨none,.fad 66 10 4⟩,
 ⟨none,.fad 67 66 0⟩,
 ⟨none,.load 68 67 1 false⟩,
 ⟨none,.len 69 (.t 68)⟩,
 ⟨none,.bin 70 .add (.t 65) (.t 69)⟩,
 ⟨none,.bin 71 .gtr (.t 70) (.k (.int .i64 40))⟩,
 ⟨none,.mov 72 (.t 71)⟩,
 ⟨some (72,false),.fad 73 9 5⟩,
 ⟨some (72,false),.load 74 73 1 false⟩,
 ⟨some (72,false),.len 75 (.t 74)⟩,
 ⟨some (72,false),.fad 76 10 5⟩,
 ⟨some (72,false),.load 77 76 1 false⟩,
 ⟨some (72,false),.len 78 (.t 77)⟩,
 ⟨some (72,false),.bin 79 .add (.t 75) (.t 78)⟩,
 ⟨some (72,false),.bin 80 .gtr (.t 79) (.k (.int .i64 60))⟩,
 ⟨none,.pick 81 (.t 72) (.k (.bool true)) (.t 80)⟩])
 (.cond (.t 81)
 (.seq (.reg [⟨none,.load 82 3 3 true⟩,
 ⟨none,.call (some 83) 317 [(.t 82)] false⟩,
 ⟨none,.store 6 3 (.t 83)⟩,
 ⟨none,.mov 7 (.k (.bool false))⟩])
 (.ret))
 (.skip)))
 (.seq (.reg [⟨none,.load 84 9 6 true⟩,
 ⟨none,.call (some 85) 228 [(.t 84)] false⟩,
 ⟨none,.loc 11 [.int .u64 0,.int .u64 0,.int .i64 0,.int .i64 0,.nil,.nil]⟩,
 ⟨none,.store 11 6 (.t 85)⟩])
 (.seq (.reg [⟨none,.fad 86 10 1⟩,
 ⟨none,.load 87 86 1 false⟩,
 ⟨none,.fad 88 11 1⟩,
 ⟨none,.store 88 1 (.t 87)⟩])
 (.seq (.reg [⟨none,.mov 89 (.t 2)⟩,
 ⟨none,.fad 90 11 3⟩,
 ⟨none,.store 90 1 (.t 89)⟩])
 (.seq (.seq (.reg [⟨none,.mov 12 (.k (.int .i64 0))⟩])
 (.block 0 (.loop [2,3,6,8,10,11,12]
 r364L2)))
 (.seq (.seq (.reg [⟨none,.mov 13 (.k (.int .i64 0))⟩])
 (.block 2 (.loop [2,3,6,8,10,11,13]
 r364L1)))
 (.seq (.reg [⟨none,.fad 128 3 0⟩,
 ⟨none,.load 129 128 1 false⟩,
 ⟨none,.mov 130 (.t 2)⟩,
 ⟨none,.build 131 [.int .i64 0,.int .i64 0,.nil] [(0,1,(.t 129)),(1,1,(.t 130))]⟩,
 ⟨none,.loc 14 [.int .i64 0,.int .i64 0,.nil]⟩,
 ⟨none,.store 14 3 (.t 131)⟩])
 (.seq (.seq (.reg [⟨none,.mov 15 (.k (.int .i64 0))⟩])
 (.block 4 (.loop [2,3,6,8,11,14,15]
 r364L0)))
 (.seq (.reg [⟨none,.load 163 14 3 true⟩,
 ⟨none,.mov 164 (.t 2)⟩,
 ⟨none,.call (some 165) 318 [(.t 163),(.t 164)] false⟩,
 ⟨none,.store 6 3 (.t 165)⟩,
 ⟨none,.mov 7 (.k (.bool true))⟩])
 (.ret)))))))))))))⟩
def r374L0:RC:=
 .seq (.seq (.reg [⟨none,.mov 12 (.t 7)⟩,
 ⟨none,.mov 13 (.t 0)⟩,
 ⟨none,.len 14 (.t 13)⟩,
 ⟨none,.bin 15 .lss (.t 12) (.t 14)⟩])
 (.cond (.t 15)
 (.skip)
 (.exit 0)))
 (.seq (.block 1 (.seq (.seq (.reg [⟨none,.chk []⟩,
 ⟨none,.mov 18 (.t 6)⟩,
 ⟨none,.not 19 (.t 18)⟩,
 ⟨none,.mov 20 (.t 19)⟩,
 ⟨some (20,true),.mov 22 (.t 0)⟩,
 ⟨some (20,true),.mov 23 (.t 7)⟩,
 ⟨some (20,true),.idx 24 9 (.t 22) (.t 23)⟩,
 ⟨some (20,true),.load 21 3 2 true⟩,
 ⟨some (20,true),.load 25 24 2 true⟩,
 ⟨some (20,true),.call (some 26) 242 [(.t 21),(.t 25)] true⟩,
 ⟨none,.pick 27 (.t 20) (.t 26) (.k (.bool false))⟩])
 (.cond (.t 27)
 (.seq (.reg [⟨none,.mov 28 (.t 5)⟩,
 ⟨none,.load 29 3 2 true⟩,
 ⟨none,.lit 30 9 1 [.int .i64 0,.int .u64 0] [(0,(.t 29))]⟩,
 ⟨none,.app 31 9 16 (.t 28) (.t 30)⟩,
 ⟨none,.mov 5 (.t 31)⟩])
 (.reg [⟨none,.mov 6 (.k (.bool true))⟩]))
 (.skip)))
 (.reg [⟨none,.mov 32 (.t 5)⟩,
 ⟨none,.mov 33 (.t 0)⟩,
 ⟨none,.mov 34 (.t 7)⟩,
 ⟨none,.idx 35 9 (.t 33) (.t 34)⟩,
 ⟨none,.load 36 35 2 true⟩,
 ⟨none,.lit 37 9 1 [.int .i64 0,.int .u64 0] [(0,(.t 36))]⟩,
 ⟨none,.app 38 9 16 (.t 32) (.t 37)⟩,
 ⟨none,.mov 5 (.t 38)⟩])))
 (.reg [⟨none,.mov 16 (.t 7)⟩,
 ⟨none,.bin 17 .add (.t 16) (.k (.int .i64 1))⟩,
 ⟨none,.mov 7 (.t 17)⟩]))
def r374:RF:=
 ⟨2,[.tmp 4],
 .seq (.reg [⟨none,.locb 3 (.t 1)⟩,
 ⟨none,.mov 4 (.k (.nil))⟩])
 (.seq (.reg [⟨none,.lit 8 9 0 [.int .i64 0,.int .u64 0] []⟩,
 ⟨none,.mov 5 (.t 8)⟩])
 (.seq (.reg [⟨none,.mov 9 (.t 0)⟩,
 ⟨none,.load 10 3 2 true⟩,
 ⟨none,.call (some 11) 243 [(.t 9),(.t 10)] false⟩,
 ⟨none,.mov 6 (.t 11)⟩])
 (.seq (.seq (.reg [⟨none,.mov 7 (.k (.int .i64 0))⟩])
 (.block 0 (.loop [0,3,5,6,7]
 r374L0)))
 (.seq (.seq (.reg [⟨none,.mov 39 (.t 6)⟩,
 ⟨none,.not 40 (.t 39)⟩])
 (.cond (.t 40)
 (.reg [⟨none,.mov 41 (.t 5)⟩,
 ⟨none,.load 42 3 2 true⟩,
 ⟨none,.lit 43 9 1 [.int .i64 0,.int .u64 0] [(0,(.t 42))]⟩,
 ⟨none,.app 44 9 16 (.t 41) (.t 43)⟩,
 ⟨none,.mov 5 (.t 44)⟩])
 (.skip)))
 (.seq (.reg [⟨none,.mov 45 (.t 5)⟩,
 ⟨none,.mov 4 (.t 45)⟩])
 (.ret))))))⟩
def r381:RF:=
 ⟨2,[.cell 4 3 true,.tmp 5,.tmp 6],
 .seq (.reg [⟨none,.locb 2 (.t 0)⟩,
 ⟨none,.locb 3 (.t 1)⟩,
 ⟨none,.loc 4 [.int .i64 0,.int .i64 0,.nil]⟩,
 ⟨none,.mov 5 (.k (.int .i64 0))⟩,
 ⟨none,.mov 6 (.k (.int .u64 0))⟩])
 (.seq (.reg [⟨none,.load 14 2 3 true⟩,
 ⟨none,.call (some 15) 317 [(.t 14)] false⟩,
 ⟨none,.loc 7 [.int .i64 0,.int .i64 0,.nil]⟩,
 ⟨none,.store 7 3 (.t 15)⟩])
 (.seq (.seq (.reg [⟨none,.load 16 2 3 true⟩,
 ⟨none,.call (some 17) 156 [(.t 16)] false⟩,
 ⟨none,.not 18 (.t 17)⟩,
 ⟨none,.mov 19 (.t 18)⟩,
 ⟨some (19,false),.fad 20 3 1⟩,
 ⟨some (19,false),.load 21 20 1 false⟩,
 ⟨some (19,false),.call (some 22) 5 [(.t 21),(.k (.int .i64 0)),(.k (.int .i64 8))] false⟩,
 ⟨some (19,false),.not 23 (.t 22)⟩,
 ⟨none,.pick 24 (.t 19) (.k (.bool true)) (.t 23)⟩])
 (.cond (.t 24)
 (.seq (.reg [⟨none,.load 25 7 3 true⟩,
 ⟨none,.store 4 3 (.t 25)⟩,
 ⟨none,.mov 5 (.k (.int .i64 11))⟩,
 ⟨none,.mov 6 (.k (.int .u64 0))⟩])
 (.ret))
 (.skip)))
 (.seq (.reg [⟨none,.load 26 2 3 true⟩,
 ⟨none,.fad 27 3 2⟩,
 ⟨none,.load 28 27 1 false⟩,
 ⟨none,.call (some 29) 211 [(.t 26),(.t 28)] false⟩,
 ⟨none,.mov 8 (.t 29)⟩])
 (.seq (.seq (.reg [⟨none,.mov 30 (.t 8)⟩,
 ⟨none,.bin 31 .lss (.t 30) (.k (.int .i64 0))⟩])
 (.cond (.t 31)
 (.seq (.reg [⟨none,.load 32 7 3 true⟩,
 ⟨none,.store 4 3 (.t 32)⟩,
 ⟨none,.mov 5 (.k (.int .i64 8))⟩,
 ⟨none,.mov 6 (.k (.int .u64 0))⟩])
 (.ret))
 (.skip)))
 (.seq (.reg [⟨none,.fad 33 2 2⟩,
 ⟨none,.load 34 33 1 false⟩,
 ⟨none,.mov 35 (.t 8)⟩,
 ⟨none,.idx 36 16 (.t 34) (.t 35)⟩,
 ⟨none,.load 37 36 6 true⟩,
 ⟨none,.call (some 38) 228 [(.t 37)] false⟩,
 ⟨none,.loc 9 [.int .u64 0,.int .u64 0,.int .i64 0,.int .i64 0,.nil,.nil]⟩,
 ⟨none,.store 9 6 (.t 38)⟩])
 (.seq (.reg [⟨none,.fad 39 3 4⟩,
 ⟨none,.load 40 39 1 false⟩,
 ⟨none,.fad 41 3 2⟩,
 ⟨none,.load 42 41 1 false⟩,
 ⟨none,.build 43 [.int .i64 0,.int .u64 0] [(0,1,(.t 40)),(1,1,(.t 42))]⟩,
 ⟨none,.loc 10 [.int .i64 0,.int .u64 0]⟩,
 ⟨none,.store 10 2 (.t 43)⟩])
 (.seq (.block 0 (.seq (.reg [⟨none,.fad 45 9 3⟩,
 ⟨none,.load 46 45 1 false⟩,
 ⟨none,.fad 47 3 0⟩,
 ⟨none,.load 48 47 1 false⟩,
 ⟨none,.bin 49 .neq (.t 46) (.t 48)⟩,
 ⟨none,.mov 44 (.t 49)⟩])
 (.cond (.t 44)
 (.seq (.reg [⟨none,.load 50 7 3 true⟩,
 ⟨none,.store 4 3 (.t 50)⟩,
 ⟨none,.mov 5 (.k (.int .i64 9))⟩,
 ⟨none,.mov 6 (.k (.int .u64 0))⟩])
 (.ret))
 (.seq (.reg [⟨none,.fad 52 9 2⟩,
 ⟨none,.load 53 52 1 false⟩,
 ⟨none,.bin 54 .eql (.t 53) (.k (.int .i64 1))⟩,
 ⟨none,.mov 55 (.t 54)⟩,
 ⟨some (55,true),.fad 56 3 1⟩,
 ⟨some (55,true),.load 57 56 1 false⟩,
 ⟨some (55,true),.bin 58 .neq (.t 57) (.k (.int .i64 8))⟩,
 ⟨none,.pick 59 (.t 55) (.t 58) (.k (.bool false))⟩,
 ⟨none,.mov 51 (.t 59)⟩])
 (.cond (.t 51)
 (.seq (.reg [⟨none,.load 60 7 3 true⟩,
 ⟨none,.store 4 3 (.t 60)⟩,
 ⟨none,.mov 5 (.k (.int .i64 10))⟩,
 ⟨none,.mov 6 (.k (.int .u64 0))⟩])
 (.ret))
 (.seq (.reg [⟨none,.fad 62 3 1⟩,
 ⟨none,.load 63 62 1 false⟩,
 ⟨none,.call (some 64) 5 [(.t 63),(.k (.int .i64 4)),(.k (.int .i64 7))] false⟩,
 ⟨none,.mov 65 (.t 64)⟩,
 ⟨some (65,true),.fad 66 3 4⟩,
 ⟨some (65,true),.load 67 66 1 false⟩,
 ⟨some (65,true),.bin 68 .lss (.t 67) (.k (.int .i64 1))⟩,
 ⟨none,.pick 69 (.t 65) (.t 68) (.k (.bool false))⟩,
 ⟨none,.mov 61 (.t 69)⟩])
 (.cond (.t 61)
 (.seq (.reg [⟨none,.load 70 7 3 true⟩,
 ⟨none,.store 4 3 (.t 70)⟩,
 ⟨none,.mov 5 (.k (.int .i64 11))⟩,
 ⟨none,.mov 6 (.k (.int .u64 0))⟩])
 (.ret))
 (.seq (.reg [⟨none,.fad 72 3 1⟩,
 ⟨none,.load 73 72 1 false⟩,
 ⟨none,.call (some 74) 5 [(.t 73),(.k (.int .i64 4)),(.k (.int .i64 5))] false⟩,
 ⟨none,.mov 75 (.t 74)⟩,
 ⟨some (75,true),.fad 76 9 5⟩,
 ⟨some (75,true),.load 77 76 1 false⟩,
 ⟨some (75,true),.load 78 10 2 true⟩,
 ⟨some (75,true),.call (some 79) 243 [(.t 77),(.t 78)] false⟩,
 ⟨none,.pick 80 (.t 75) (.t 79) (.k (.bool false))⟩,
 ⟨none,.mov 71 (.t 80)⟩])
 (.cond (.t 71)
 (.seq (.reg [⟨none,.load 81 7 3 true⟩,
 ⟨none,.store 4 3 (.t 81)⟩,
 ⟨none,.mov 5 (.k (.int .i64 12))⟩,
 ⟨none,.mov 6 (.k (.int .u64 0))⟩])
 (.ret))
 (.seq (.reg [⟨none,.fad 83 3 1⟩,
 ⟨none,.load 84 83 1 false⟩,
 ⟨none,.call (some 85) 5 [(.t 84),(.k (.int .i64 6)),(.k (.int .i64 7))] false⟩,
 ⟨none,.mov 86 (.t 85)⟩,
 ⟨some (86,true),.fad 87 9 5⟩,
 ⟨some (86,true),.load 88 87 1 false⟩,
 ⟨some (86,true),.load 89 10 2 true⟩,
 ⟨some (86,true),.call (some 90) 243 [(.t 88),(.t 89)] false⟩,
 ⟨some (86,true),.not 91 (.t 90)⟩,
 ⟨none,.pick 92 (.t 86) (.t 91) (.k (.bool false))⟩,
 ⟨none,.mov 93 (.t 92)⟩,
 ⟨some (93,true),.fad 94 9 5⟩,
 ⟨some (93,true),.load 95 94 1 false⟩,
 ⟨some (93,true),.len 96 (.t 95)⟩,
 ⟨some (93,true),.bin 97 .eql (.t 96) (.k (.int .i64 60))⟩,
 ⟨none,.pick 98 (.t 93) (.t 97) (.k (.bool false))⟩,
 ⟨none,.mov 82 (.t 98)⟩])
 (.cond (.t 82)
 (.seq (.reg [⟨none,.load 99 7 3 true⟩,
 ⟨none,.store 4 3 (.t 99)⟩,
 ⟨none,.mov 5 (.k (.int .i64 13))⟩,
 ⟨none,.mov 6 (.k (.int .u64 0))⟩])
 (.ret))
 (.skip))))))))))))
 (.seq (.reg [⟨none,.mov 11 (.k (.int .i64 0))⟩])
 (.seq (.seq (.reg [⟨none,.fad 100 3 1⟩,
 ⟨none,.load 101 100 1 false⟩])
 (.block 1 (.seq (.reg [⟨none,.bin 109 .eql (.t 101) (.k (.int .i64 0))⟩,
 ⟨none,.mov 108 (.t 109)⟩])
 (.cond (.t 108)
 (.reg [⟨none,.fad 111 9 4⟩,
 ⟨none,.load 112 111 1 true⟩,
 ⟨none,.fad 113 3 2⟩,
 ⟨none,.load 114 113 1 false⟩,
 ⟨none,.call (some 115) 323 [(.t 112),(.t 114)] false⟩,
 ⟨none,.mov 110 (.t 115)⟩,
 ⟨none,.ext 116 (.t 110) 0⟩,
 ⟨none,.ext 117 (.t 110) 1⟩,
 ⟨none,.fad 118 9 4⟩,
 ⟨none,.store 118 1 (.t 116)⟩,
 ⟨none,.mov 11 (.t 117)⟩])
 (.seq (.reg [⟨none,.bin 120 .eql (.t 101) (.k (.int .i64 1))⟩,
 ⟨none,.mov 119 (.t 120)⟩])
 (.cond (.t 119)
 (.reg [⟨none,.fad 122 9 4⟩,
 ⟨none,.load 123 122 1 true⟩,
 ⟨none,.fad 124 3 2⟩,
 ⟨none,.load 125 124 1 false⟩,
 ⟨none,.call (some 126) 324 [(.t 123),(.t 125)] false⟩,
 ⟨none,.mov 121 (.t 126)⟩,
 ⟨none,.ext 127 (.t 121) 0⟩,
 ⟨none,.ext 128 (.t 121) 1⟩,
 ⟨none,.fad 129 9 4⟩,
 ⟨none,.store 129 1 (.t 127)⟩,
 ⟨none,.mov 11 (.t 128)⟩])
 (.seq (.reg [⟨none,.bin 131 .eql (.t 101) (.k (.int .i64 2))⟩,
 ⟨none,.mov 130 (.t 131)⟩])
 (.cond (.t 130)
 (.reg [⟨none,.fad 133 9 4⟩,
 ⟨none,.load 134 133 1 true⟩,
 ⟨none,.fad 135 3 2⟩,
 ⟨none,.load 136 135 1 false⟩,
 ⟨none,.fad 137 3 3⟩,
 ⟨none,.load 138 137 1 false⟩,
 ⟨none,.call (some 139) 325 [(.t 134),(.t 136),(.t 138)] false⟩,
 ⟨none,.mov 132 (.t 139)⟩,
 ⟨none,.ext 140 (.t 132) 0⟩,
 ⟨none,.ext 141 (.t 132) 1⟩,
 ⟨none,.fad 142 9 4⟩,
 ⟨none,.store 142 1 (.t 140)⟩,
 ⟨none,.mov 11 (.t 141)⟩])
 (.seq (.reg [⟨none,.bin 144 .eql (.t 101) (.k (.int .i64 3))⟩,
 ⟨none,.mov 143 (.t 144)⟩])
 (.cond (.t 143)
 (.reg [⟨none,.fad 146 9 4⟩,
 ⟨none,.load 147 146 1 true⟩,
 ⟨none,.fad 148 3 2⟩,
 ⟨none,.load 149 148 1 false⟩,
 ⟨none,.fad 150 3 3⟩,
 ⟨none,.load 151 150 1 false⟩,
 ⟨none,.call (some 152) 326 [(.t 147),(.t 149),(.t 151)] false⟩,
 ⟨none,.mov 145 (.t 152)⟩,
 ⟨none,.ext 153 (.t 145) 0⟩,
 ⟨none,.ext 154 (.t 145) 1⟩,
 ⟨none,.fad 155 9 4⟩,
 ⟨none,.store 155 1 (.t 153)⟩,
 ⟨none,.mov 11 (.t 154)⟩])
 (.seq (.reg [⟨none,.bin 157 .eql (.t 101) (.k (.int .i64 4))⟩,
 ⟨none,.mov 156 (.t 157)⟩])
 (.cond (.t 156)
 (.reg [⟨none,.fad 159 9 4⟩,
 ⟨none,.load 160 159 1 true⟩,
 ⟨none,.fad 161 3 2⟩,
 ⟨none,.load 162 161 1 false⟩,
 ⟨none,.fad 163 3 3⟩,
 ⟨none,.load 164 163 1 false⟩,
 ⟨none,.fad 165 3 4⟩,
 ⟨none,.load 166 165 1 false⟩,
 ⟨none,.call (some 167) 388 [(.t 160),(.t 162),(.t 164),(.t 166)] false⟩,
 ⟨none,.mov 158 (.t 167)⟩,
 ⟨none,.ext 168 (.t 158) 0⟩,
 ⟨none,.ext 169 (.t 158) 1⟩,
 ⟨none,.fad 170 9 4⟩,
 ⟨none,.store 170 1 (.t 168)⟩,
 ⟨none,.mov 11 (.t 169)⟩])
 (.seq (.reg [⟨none,.bin 172 .eql (.t 101) (.k (.int .i64 5))⟩,
 ⟨none,.mov 171 (.t 172)⟩])
 (.cond (.t 171)
 (.reg [⟨none,.fad 174 9 4⟩,
 ⟨none,.load 175 174 1 true⟩,
 ⟨none,.fad 176 3 2⟩,
 ⟨none,.load 177 176 1 false⟩,
 ⟨none,.fad 178 3 3⟩,
 ⟨none,.load 179 178 1 false⟩,
 ⟨none,.fad 180 3 4⟩,
 ⟨none,.load 181 180 1 false⟩,
 ⟨none,.call (some 182) 389 [(.t 175),(.t 177),(.t 179),(.t 181)] false⟩,
 ⟨none,.mov 173 (.t 182)⟩,
 ⟨none,.ext 183 (.t 173) 0⟩,
 ⟨none,.ext 184 (.t 173) 1⟩,
 ⟨none,.fad 185 9 4⟩,
 ⟨none,.store 185 1 (.t 183)⟩,
 ⟨none,.mov 11 (.t 184)⟩])
 (.seq (.reg [⟨none,.bin 187 .eql (.t 101) (.k (.int .i64 6))⟩,
 ⟨none,.mov 186 (.t 187)⟩])
 (.cond (.t 186)
 (.reg [⟨none,.fad 189 9 4⟩,
 ⟨none,.load 190 189 1 true⟩,
 ⟨none,.fad 191 3 2⟩,
 ⟨none,.load 192 191 1 false⟩,
 ⟨none,.fad 193 3 4⟩,
 ⟨none,.load 194 193 1 false⟩,
 ⟨none,.call (some 195) 390 [(.t 190),(.t 192),(.t 194)] false⟩,
 ⟨none,.mov 188 (.t 195)⟩,
 ⟨none,.ext 196 (.t 188) 0⟩,
 ⟨none,.ext 197 (.t 188) 1⟩,
 ⟨none,.fad 198 9 4⟩,
 ⟨none,.store 198 1 (.t 196)⟩,
 ⟨none,.mov 11 (.t 197)⟩])
 (.seq (.reg [⟨none,.bin 200 .eql (.t 101) (.k (.int .i64 7))⟩,
 ⟨none,.mov 199 (.t 200)⟩])
 (.cond (.t 199)
 (.reg [⟨none,.fad 202 9 4⟩,
 ⟨none,.load 203 202 1 true⟩,
 ⟨none,.fad 204 3 2⟩,
 ⟨none,.load 205 204 1 false⟩,
 ⟨none,.fad 206 3 4⟩,
 ⟨none,.load 207 206 1 false⟩,
 ⟨none,.call (some 208) 391 [(.t 203),(.t 205),(.t 207)] false⟩,
 ⟨none,.mov 201 (.t 208)⟩,
 ⟨none,.ext 209 (.t 201) 0⟩,
 ⟨none,.ext 210 (.t 201) 1⟩,
 ⟨none,.fad 211 9 4⟩,
 ⟨none,.store 211 1 (.t 209)⟩,
 ⟨none,.mov 11 (.t 210)⟩])
 (.seq (.reg [⟨none,.fad 102 9 4⟩,
 ⟨none,.load 103 102 1 true⟩,
 ⟨none,.fad 104 3 2⟩,
 ⟨none,.load 105 104 1 false⟩,
 ⟨none,.call (some 106) 328 [(.t 103),(.t 105)] false⟩,
 ⟨none,.bin 107 .lss (.t 106) (.k (.int .i64 0))⟩])
 (.cond (.t 107)
 (.reg [⟨none,.mov 11 (.k (.int .i64 2))⟩])
 (.skip)))))))))))))))))))))
 (.seq (.seq (.reg [⟨none,.fad 212 3 1⟩,
 ⟨none,.load 213 212 1 false⟩,
 ⟨none,.call (some 214) 5 [(.t 213),(.k (.int .i64 6)),(.k (.int .i64 7))] false⟩])
 (.cond (.t 214)
 (.reg [⟨none,.fad 215 9 5⟩,
 ⟨none,.load 216 215 1 false⟩,
 ⟨none,.load 217 10 2 true⟩,
 ⟨none,.call (some 218) 374 [(.t 216),(.t 217)] false⟩,
 ⟨none,.fad 219 9 5⟩,
 ⟨none,.store 219 1 (.t 218)⟩])
 (.skip)))
 (.seq (.reg [⟨none,.fad 220 7 2⟩,
 ⟨none,.load 221 220 1 false⟩,
 ⟨none,.mov 222 (.t 8)⟩,
 ⟨none,.load 223 9 6 true⟩,
 ⟨none,.idx 224 16 (.t 221) (.t 222)⟩,
 ⟨none,.store 224 6 (.t 223)⟩])
 (.seq (.reg [⟨none,.mov 12 (.k (.int .u64 0))⟩])
 (.seq (.reg [⟨none,.fad 225 9 4⟩,
 ⟨none,.load 226 225 1 true⟩,
 ⟨none,.fad 227 3 2⟩,
 ⟨none,.load 228 227 1 false⟩,
 ⟨none,.call (some 229) 328 [(.t 226),(.t 228)] false⟩,
 ⟨none,.mov 13 (.t 229)⟩])
 (.seq (.seq (.reg [⟨none,.mov 230 (.t 11)⟩,
 ⟨none,.bin 231 .eql (.t 230) (.k (.int .i64 0))⟩,
 ⟨none,.mov 232 (.t 231)⟩,
 ⟨some (232,true),.mov 233 (.t 13)⟩,
 ⟨some (232,true),.bin 234 .geq (.t 233) (.k (.int .i64 0))⟩,
 ⟨none,.pick 235 (.t 232) (.t 234) (.k (.bool false))⟩])
 (.cond (.t 235)
 (.reg [⟨none,.fad 236 9 4⟩,
 ⟨none,.fad 237 236 0⟩,
 ⟨none,.load 238 237 1 false⟩,
 ⟨none,.mov 239 (.t 13)⟩,
 ⟨none,.idx 240 11 (.t 238) (.t 239)⟩,
 ⟨none,.fad 241 240 1⟩,
 ⟨none,.load 242 241 1 false⟩,
 ⟨none,.mov 12 (.t 242)⟩])
 (.skip)))
 (.seq (.reg [⟨none,.load 243 7 3 true⟩,
 ⟨none,.mov 244 (.t 11)⟩,
 ⟨none,.mov 245 (.t 12)⟩,
 ⟨none,.store 4 3 (.t 243)⟩,
 ⟨none,.mov 5 (.t 244)⟩,
 ⟨none,.mov 6 (.t 245)⟩])
 (.ret))))))))))))))))⟩
def r392L0:RC:=
 .seq (.seq (.reg [⟨none,.mov 40 (.t 8)⟩,
 ⟨none,.bin 41 .gtr (.t 40) (.k (.int .i64 0))⟩])
 (.cond (.t 41)
 (.skip)
 (.exit 1)))
 (.seq (.block 2 (.reg [⟨none,.mov 44 (.t 0)⟩,
 ⟨none,.load 45 7 3 true⟩,
 ⟨none,.call (some 46) 396 [(.t 44),(.t 45)] false⟩,
 ⟨none,.store 7 3 (.t 46)⟩]))
 (.reg [⟨none,.mov 42 (.t 8)⟩,
 ⟨none,.bin 43 .sub (.t 42) (.k (.int .i64 1))⟩,
 ⟨none,.mov 8 (.t 43)⟩]))
def r392:RF:=
 ⟨3,[.cell 6 3 true],
 .seq (.reg [⟨none,.loc 6 [.int .i64 0,.int .i64 0,.nil]⟩])
 (.seq (.reg [⟨none,.mov 9 (.t 2)⟩,
 ⟨none,.mov 10 (.t 0)⟩,
 ⟨none,.call (some 11) 236 [(.t 10),(.k (.int .i64 3))] false⟩,
 ⟨none,.bin 12 .add (.k (.int .i64 1)) (.t 11)⟩,
 ⟨none,.build 13 [.int .i64 0,.int .i64 0,.nil] [(0,1,(.t 9)),(1,1,(.t 12))]⟩,
 ⟨none,.loc 7 [.int .i64 0,.int .i64 0,.nil]⟩,
 ⟨none,.store 7 3 (.t 13)⟩])
 (.seq (.seq (.reg [⟨none,.mov 14 (.t 0)⟩,
 ⟨none,.call (some 15) 236 [(.t 14),(.k (.int .i64 4))] false⟩])
 (.block 0 (.seq (.reg [⟨none,.bin 22 .eql (.t 15) (.k (.int .i64 0))⟩,
 ⟨none,.mov 21 (.t 22)⟩])
 (.cond (.t 21)
 (.reg [⟨none,.build 23 [.int .u64 0,.int .u64 0,.int .i64 0,.int .i64 0,.nil,.nil] [(0,1,(.k (.int .u64 0))),(1,1,(.k (.int .u64 9))),(3,1,(.k (.int .i64 1)))]⟩,
 ⟨none,.fad 24 7 1⟩,
 ⟨none,.load 25 24 1 false⟩,
 ⟨none,.build 26 [.int .u64 0,.int .u64 0,.int .i64 0,.int .i64 0,.nil,.nil] [(0,1,(.k (.int .u64 50))),(1,1,(.k (.int .u64 9223372036854775808))),(3,1,(.t 25))]⟩,
 ⟨none,.lit 27 16 2 [.int .u64 0,.int .u64 0,.int .i64 0,.int .i64 0,.nil,.nil] [(0,(.t 23)),(1,(.t 26))]⟩,
 ⟨none,.fad 28 7 2⟩,
 ⟨none,.store 28 1 (.t 27)⟩])
 (.seq (.reg [⟨none,.bin 30 .eql (.t 15) (.k (.int .i64 1))⟩,
 ⟨none,.mov 29 (.t 30)⟩])
 (.cond (.t 29)
 (.reg [⟨none,.build 31 [.int .u64 0,.int .u64 0,.int .i64 0,.int .i64 0,.nil,.nil] [(0,1,(.k (.int .u64 2))),(1,1,(.k (.int .u64 18446744073709551615))),(3,1,(.k (.int .i64 1)))]⟩,
 ⟨none,.lit 32 16 1 [.int .u64 0,.int .u64 0,.int .i64 0,.int .i64 0,.nil,.nil] [(0,(.t 31))]⟩,
 ⟨none,.fad 33 7 2⟩,
 ⟨none,.store 33 1 (.t 32)⟩])
 (.reg [⟨none,.fad 16 7 1⟩,
 ⟨none,.load 17 16 1 false⟩,
 ⟨none,.build 18 [.int .u64 0,.int .u64 0,.int .i64 0,.int .i64 0,.nil,.nil] [(1,1,(.k (.int .u64 18446744073709551615))),(3,1,(.t 17))]⟩,
 ⟨none,.lit 19 16 1 [.int .u64 0,.int .u64 0,.int .i64 0,.int .i64 0,.nil,.nil] [(0,(.t 18))]⟩,
 ⟨none,.fad 20 7 2⟩,
 ⟨none,.store 20 1 (.t 19)⟩])))))))
 (.seq (.seq (.reg [⟨none,.mov 34 (.t 0)⟩,
 ⟨none,.mov 35 (.t 1)⟩,
 ⟨none,.call (some 36) 238 [(.t 35),(.k (.int .i64 20))] false⟩,
 ⟨none,.bin 37 .add (.k (.int .i64 6)) (.t 36)⟩,
 ⟨none,.call (some 38) 236 [(.t 34),(.t 37)] false⟩,
 ⟨none,.bin 39 .add (.k (.int .i64 6)) (.t 38)⟩,
 ⟨none,.mov 8 (.t 39)⟩])
 (.block 1 (.loop [0,6,7,8]
 r392L0)))
 (.seq (.reg [⟨none,.load 47 7 3 true⟩,
 ⟨none,.store 6 3 (.t 47)⟩])
 (.ret)))))⟩
def r393L0:RC:=
 .seq (.seq (.reg [⟨none,.mov 42 (.t 7)⟩,
 ⟨none,.fad 43 3 2⟩,
 ⟨none,.load 44 43 1 false⟩,
 ⟨none,.mov 45 (.t 6)⟩,
 ⟨none,.idx 46 16 (.t 44) (.t 45)⟩,
 ⟨none,.fad 47 46 4⟩,
 ⟨none,.fad 48 47 0⟩,
 ⟨none,.load 49 48 1 false⟩,
 ⟨none,.len 50 (.t 49)⟩,
 ⟨none,.bin 51 .lss (.t 42) (.t 50)⟩])
 (.cond (.t 51)
 (.skip)
 (.exit 0)))
 (.seq (.block 1 (.seq (.reg [⟨none,.fad 54 3 2⟩,
 ⟨none,.load 55 54 1 false⟩,
 ⟨none,.mov 56 (.t 6)⟩,
 ⟨none,.idx 57 16 (.t 55) (.t 56)⟩,
 ⟨none,.fad 58 57 4⟩,
 ⟨none,.fad 59 58 0⟩,
 ⟨none,.load 60 59 1 false⟩,
 ⟨none,.mov 61 (.t 7)⟩,
 ⟨none,.idx 62 11 (.t 60) (.t 61)⟩,
 ⟨none,.load 63 62 5 true⟩,
 ⟨none,.loc 8 [.int .u64 0,.int .u64 0,.int .u64 0,.int .u64 0,.int .i64 0]⟩,
 ⟨none,.store 8 5 (.t 63)⟩])
 (.seq (.reg [⟨none,.fad 64 8 4⟩,
 ⟨none,.load 65 64 1 false⟩,
 ⟨none,.bin 66 .neq (.t 65) (.k (.int .i64 0))⟩])
 (.cond (.t 66)
 (.seq (.reg [⟨none,.fad 67 8 0⟩,
 ⟨none,.load 68 67 1 false⟩,
 ⟨none,.fad 69 5 2⟩,
 ⟨none,.store 69 1 (.t 68)⟩])
 (.reg [⟨none,.fad 70 8 4⟩,
 ⟨none,.load 71 70 1 false⟩,
 ⟨none,.fad 72 5 4⟩,
 ⟨none,.store 72 1 (.t 71)⟩]))
 (.skip)))))
 (.reg [⟨none,.mov 52 (.t 7)⟩,
 ⟨none,.bin 53 .add (.t 52) (.k (.int .i64 1))⟩,
 ⟨none,.mov 7 (.t 53)⟩]))
def r393:RF:=
 ⟨2,[.cell 4 5 true],
 .seq (.reg [⟨none,.locb 3 (.t 1)⟩,
 ⟨none,.loc 4 [.int .i64 0,.int .i64 0,.int .u64 0,.int .u64 0,.int .i64 0]⟩])
 (.seq (.reg [⟨none,.mov 9 (.t 0)⟩,
 ⟨none,.lit 10 15 14 [.int .i64 0] [(0,(.k (.int .i64 0))),(1,(.k (.int .i64 0))),(2,(.k (.int .i64 2))),(3,(.k (.int .i64 2))),(4,(.k (.int .i64 2))),(5,(.k (.int .i64 3))),(6,(.k (.int .i64 4))),(7,(.k (.int .i64 4))),(8,(.k (.int .i64 5))),(9,(.k (.int .i64 5))),(10,(.k (.int .i64 6))),(11,(.k (.int .i64 7))),(12,(.k (.int .i64 8))),(13,(.k (.int .i64 1)))]⟩,
 ⟨none,.call (some 11) 239 [(.t 9),(.t 10)] false⟩,
 ⟨none,.mov 12 (.t 0)⟩,
 ⟨none,.call (some 13) 236 [(.t 12),(.k (.int .i64 4))] false⟩,
 ⟨none,.bin 14 .add (.k (.int .i64 1)) (.t 13)⟩,
 ⟨none,.build 15 [.int .i64 0,.int .i64 0,.int .u64 0,.int .u64 0,.int .i64 0] [(1,1,(.t 11)),(4,1,(.t 14))]⟩,
 ⟨none,.loc 5 [.int .i64 0,.int .i64 0,.int .u64 0,.int .u64 0,.int .i64 0]⟩,
 ⟨none,.store 5 5 (.t 15)⟩])
 (.seq (.reg [⟨none,.mov 16 (.t 0)⟩,
 ⟨none,.call (some 17) 235 [(.t 16)] false⟩,
 ⟨none,.fad 18 5 2⟩,
 ⟨none,.store 18 1 (.t 17)⟩])
 (.seq (.reg [⟨none,.mov 19 (.t 0)⟩,
 ⟨none,.call (some 20) 237 [(.t 19)] false⟩,
 ⟨none,.fad 21 5 3⟩,
 ⟨none,.store 21 1 (.t 20)⟩])
 (.seq (.reg [⟨none,.load 22 3 3 true⟩,
 ⟨none,.fad 23 5 2⟩,
 ⟨none,.load 24 23 1 false⟩,
 ⟨none,.call (some 25) 211 [(.t 22),(.t 24)] false⟩,
 ⟨none,.mov 6 (.t 25)⟩])
 (.seq (.seq (.reg [⟨none,.mov 26 (.t 6)⟩,
 ⟨none,.bin 27 .geq (.t 26) (.k (.int .i64 0))⟩])
 (.cond (.t 27)
 (.seq (.reg [⟨none,.fad 28 3 2⟩,
 ⟨none,.load 29 28 1 false⟩,
 ⟨none,.mov 30 (.t 6)⟩,
 ⟨none,.idx 31 16 (.t 29) (.t 30)⟩,
 ⟨none,.fad 32 31 3⟩,
 ⟨none,.load 33 32 1 false⟩,
 ⟨none,.fad 34 5 0⟩,
 ⟨none,.store 34 1 (.t 33)⟩])
 (.seq (.reg [⟨none,.fad 35 5 1⟩,
 ⟨none,.load 36 35 1 false⟩,
 ⟨none,.call (some 37) 5 [(.t 36),(.k (.int .i64 6)),(.k (.int .i64 7))] false⟩,
 ⟨none,.mov 38 (.t 37)⟩,
 ⟨some (38,true),.mov 39 (.t 0)⟩,
 ⟨some (38,true),.call (some 40) 240 [(.t 39),(.k (.int .i64 2))] false⟩,
 ⟨none,.pick 41 (.t 38) (.t 40) (.k (.bool false))⟩])
 (.cond (.t 41)
 (.seq (.reg [⟨none,.mov 7 (.k (.int .i64 0))⟩])
 (.block 0 (.loop [0,3,4,5,6,7]
 r393L0)))
 (.skip))))
 (.skip)))
 (.seq (.seq (.reg [⟨none,.mov 73 (.t 0)⟩,
 ⟨none,.call (some 74) 236 [(.t 73),(.k (.int .i64 30))] false⟩])
 (.block 2 (.seq (.reg [⟨none,.bin 76 .eql (.t 74) (.k (.int .i64 0))⟩,
 ⟨none,.mov 75 (.t 76)⟩])
 (.cond (.t 75)
 (.reg [⟨none,.chk []⟩,
 ⟨none,.mov 79 (.t 0)⟩,
 ⟨none,.fad 77 5 0⟩,
 ⟨none,.lld 78 77 1 false⟩,
 ⟨none,.call (some 80) 236 [(.t 79),(.k (.int .i64 3))] false⟩,
 ⟨none,.bin 81 .add (.t 78) (.t 80)⟩,
 ⟨none,.bin 82 .sub (.t 81) (.k (.int .i64 1))⟩,
 ⟨none,.fad 83 5 0⟩,
 ⟨none,.store 83 1 (.t 82)⟩])
 (.seq (.reg [⟨none,.bin 85 .eql (.t 74) (.k (.int .i64 1))⟩,
 ⟨none,.mov 84 (.t 85)⟩])
 (.cond (.t 84)
 (.reg [⟨none,.mov 86 (.t 0)⟩,
 ⟨none,.lit 87 15 2 [.int .i64 0] [(0,(.k (.int .i64 (-1)))),(1,(.k (.int .i64 9)))]⟩,
 ⟨none,.call (some 88) 239 [(.t 86),(.t 87)] false⟩,
 ⟨none,.fad 89 5 1⟩,
 ⟨none,.store 89 1 (.t 88)⟩])
 (.seq (.reg [⟨none,.bin 91 .eql (.t 74) (.k (.int .i64 2))⟩,
 ⟨none,.mov 90 (.t 91)⟩])
 (.cond (.t 90)
 (.reg [⟨none,.mov 92 (.t 0)⟩,
 ⟨none,.call (some 93) 236 [(.t 92),(.k (.int .i64 2))] false⟩,
 ⟨none,.bin 94 .sub (.t 93) (.k (.int .i64 1))⟩,
 ⟨none,.fad 95 5 4⟩,
 ⟨none,.store 95 1 (.t 94)⟩])
 (.skip)))))))))
 (.seq (.reg [⟨none,.load 96 5 5 true⟩,
 ⟨none,.store 4 5 (.t 96)⟩])
 (.ret))))))))⟩
def r396:RF:=
 ⟨2,[.cell 4 3 true],
 .seq (.reg [⟨none,.locb 3 (.t 1)⟩,
 ⟨none,.loc 4 [.int .i64 0,.int .i64 0,.nil]⟩])
 (.seq (.reg [⟨none,.fad 7 3 1⟩,
 ⟨none,.load 8 7 1 false⟩,
 ⟨none,.bin 9 .add (.t 8) (.k (.int .i64 1))⟩,
 ⟨none,.mov 5 (.t 9)⟩])
 (.seq (.reg [⟨none,.mov 6 (.k (.int .u64 0))⟩])
 (.seq (.seq (.reg [⟨none,.fad 10 3 2⟩,
 ⟨none,.load 11 10 1 false⟩,
 ⟨none,.len 12 (.t 11)⟩,
 ⟨none,.bin 13 .gtr (.t 12) (.k (.int .i64 0))⟩])
 (.cond (.t 13)
 (.reg [⟨none,.chk []⟩,
 ⟨none,.mov 16 (.t 0)⟩,
 ⟨none,.fad 14 3 2⟩,
 ⟨none,.lld 15 14 1 false⟩,
 ⟨none,.fad 17 3 2⟩,
 ⟨none,.load 18 17 1 false⟩,
 ⟨none,.len 19 (.t 18)⟩,
 ⟨none,.call (some 20) 236 [(.t 16),(.t 19)] false⟩,
 ⟨none,.idx 21 16 (.t 15) (.t 20)⟩,
 ⟨none,.fad 22 21 0⟩,
 ⟨none,.load 23 22 1 false⟩,
 ⟨none,.mov 6 (.t 23)⟩])
 (.skip)))
 (.seq (.seq (.reg [⟨none,.mov 24 (.t 0)⟩,
 ⟨none,.call (some 25) 236 [(.t 24),(.k (.int .i64 14))] false⟩])
 (.block 0 (.seq (.reg [⟨none,.bin 36 .eql (.t 25) (.k (.int .i64 0))⟩,
 ⟨none,.mov 35 (.t 36)⟩])
 (.cond (.t 35)
 (.reg [⟨none,.chk []⟩,
 ⟨none,.mov 39 (.t 0)⟩,
 ⟨none,.mov 41 (.t 5)⟩,
 ⟨none,.lld 38 3 3 true⟩,
 ⟨none,.call (some 40) 271 [(.t 39)] false⟩,
 ⟨none,.call (some 42) 311 [(.t 38),(.t 40),(.t 41)] true⟩,
 ⟨none,.mov 37 (.t 42)⟩,
 ⟨none,.ext 43 (.t 37) 0⟩,
 ⟨none,.ext 44 (.t 37) 1⟩,
 ⟨none,.store 3 3 (.t 43)⟩])
 (.seq (.reg [⟨none,.bin 46 .eql (.t 25) (.k (.int .i64 1))⟩,
 ⟨none,.mov 45 (.t 46)⟩])
 (.cond (.t 45)
 (.reg [⟨none,.load 48 3 3 true⟩,
 ⟨none,.mov 49 (.t 6)⟩,
 ⟨none,.mov 50 (.t 5)⟩,
 ⟨none,.call (some 51) 364 [(.t 48),(.t 49),(.t 50)] false⟩,
 ⟨none,.mov 47 (.t 51)⟩,
 ⟨none,.ext 52 (.t 47) 0⟩,
 ⟨none,.ext 53 (.t 47) 1⟩,
 ⟨none,.store 3 3 (.t 52)⟩])
 (.seq (.reg [⟨none,.bin 55 .eql (.t 25) (.k (.int .i64 2))⟩,
 ⟨none,.mov 54 (.t 55)⟩])
 (.cond (.t 54)
 (.reg [⟨none,.load 57 3 3 true⟩,
 ⟨none,.mov 58 (.t 5)⟩,
 ⟨none,.call (some 59) 290 [(.t 57),(.t 58)] false⟩,
 ⟨none,.mov 56 (.t 59)⟩,
 ⟨none,.ext 60 (.t 56) 0⟩,
 ⟨none,.ext 61 (.t 56) 1⟩,
 ⟨none,.store 3 3 (.t 60)⟩])
 (.seq (.reg [⟨none,.bin 63 .eql (.t 25) (.k (.int .i64 3))⟩,
 ⟨none,.mov 62 (.t 63)⟩])
 (.cond (.t 62)
 (.seq (.reg [⟨none,.mov 64 (.t 0)⟩,
 ⟨none,.call (some 65) 240 [(.t 64),(.k (.int .i64 3))] false⟩])
 (.cond (.t 65)
 (.reg [⟨none,.load 67 3 3 true⟩,
 ⟨none,.mov 68 (.t 6)⟩,
 ⟨none,.mov 69 (.t 5)⟩,
 ⟨none,.call (some 70) 300 [(.t 67),(.t 68),(.t 69)] false⟩,
 ⟨none,.mov 66 (.t 70)⟩,
 ⟨none,.ext 71 (.t 66) 0⟩,
 ⟨none,.ext 72 (.t 66) 1⟩,
 ⟨none,.store 3 3 (.t 71)⟩])
 (.skip)))
 (.reg [⟨none,.chk []⟩,
 ⟨none,.mov 28 (.t 0)⟩,
 ⟨none,.lld 27 3 3 true⟩,
 ⟨none,.load 29 3 3 true⟩,
 ⟨none,.call (some 30) 393 [(.t 28),(.t 29)] false⟩,
 ⟨none,.call (some 31) 381 [(.t 27),(.t 30)] true⟩,
 ⟨none,.mov 26 (.t 31)⟩,
 ⟨none,.ext 32 (.t 26) 0⟩,
 ⟨none,.ext 33 (.t 26) 1⟩,
 ⟨none,.ext 34 (.t 26) 2⟩,
 ⟨none,.store 3 3 (.t 32)⟩])))))))))))
 (.seq (.reg [⟨none,.load 73 3 3 true⟩,
 ⟨none,.store 4 3 (.t 73)⟩])
 (.ret))))))⟩
def tS13:List (Nat×RF):=[(156,r156),(189,r189),(204,r204),(210,r210),(211,r211),(228,r228),(242,r242),(243,r243),(290,r290),(297,r297),(300,r300),(308,r308),(311,r311),(316,r316),(317,r317),(318,r318),(333,r333),(364,r364),(374,r374),(381,r381),(392,r392),(393,r393),(396,r396)]
def r3:RF:=
 ⟨1,[.tmp 2],
 .seq (.reg [⟨none,.locb 1 (.t 0)⟩,
 ⟨none,.mov 2 (.k (.bool false))⟩])
 (.seq (.reg [⟨none,.fad 3 1 1⟩,
 ⟨none,.load 4 3 1 false⟩,
 ⟨none,.call (some 5) 5 [(.t 4),(.k (.int .i64 0)),(.k (.int .i64 99))] false⟩,
 ⟨none,.mov 6 (.t 5)⟩,
 ⟨some (6,true),.fad 7 1 2⟩,
 ⟨some (6,true),.load 8 7 1 false⟩,
 ⟨some (6,true),.call (some 9) 5 [(.t 8),(.k (.int .i64 0)),(.k (.int .i64 99))] false⟩,
 ⟨none,.pick 10 (.t 6) (.t 9) (.k (.bool false))⟩,
 ⟨none,.mov 11 (.t 10)⟩,
 ⟨some (11,true),.fad 12 1 1⟩,
 ⟨some (11,true),.load 13 12 1 false⟩,
 ⟨some (11,true),.fad 14 1 2⟩,
 ⟨some (11,true),.load 15 14 1 false⟩,
 ⟨some (11,true),.bin 16 .neq (.t 13) (.t 15)⟩,
 ⟨none,.pick 17 (.t 11) (.t 16) (.k (.bool false))⟩,
 ⟨none,.mov 18 (.t 17)⟩,
 ⟨some (18,true),.fad 19 1 3⟩,
 ⟨some (18,true),.load 20 19 1 false⟩,
 ⟨some (18,true),.call (some 21) 5 [(.t 20),(.k (.int .i64 1)),(.k (.int .i64 999999))] false⟩,
 ⟨none,.pick 22 (.t 18) (.t 21) (.k (.bool false))⟩,
 ⟨none,.mov 23 (.t 22)⟩,
 ⟨some (23,true),.fad 24 1 4⟩,
 ⟨some (23,true),.load 25 24 1 false⟩,
 ⟨some (23,true),.call (some 26) 5 [(.t 25),(.k (.int .i64 0)),(.k (.int .i64 3))] false⟩,
 ⟨none,.pick 27 (.t 23) (.t 26) (.k (.bool false))⟩,
 ⟨none,.mov 2 (.t 27)⟩])
 (.ret))⟩
def r84:RF:=
 ⟨2,[.cell 4 5 true,.tmp 5],
 .seq (.reg [⟨none,.locb 2 (.t 0)⟩,
 ⟨none,.locb 3 (.t 1)⟩,
 ⟨none,.loc 4 [.int .u64 0,.int .i64 0,.int .i64 0,.int .i64 0,.int .i64 0]⟩,
 ⟨none,.mov 5 (.k (.bool false))⟩])
 (.seq (.reg [⟨none,.fad 7 2 3⟩,
 ⟨none,.load 8 7 1 false⟩,
 ⟨none,.mov 6 (.t 8)⟩])
 (.seq (.seq (.reg [⟨none,.fad 9 2 4⟩,
 ⟨none,.load 10 9 1 false⟩,
 ⟨none,.bin 11 .eql (.t 10) (.k (.int .i64 1))⟩])
 (.cond (.t 11)
 (.reg [⟨none,.fad 12 2 3⟩,
 ⟨none,.load 13 12 1 false⟩,
 ⟨none,.bin 14 .add (.t 13) (.k (.int .i64 1))⟩,
 ⟨none,.mov 6 (.t 14)⟩])
 (.skip)))
 (.seq (.seq (.reg [⟨none,.load 15 2 5 true⟩,
 ⟨none,.call (some 16) 3 [(.t 15)] false⟩,
 ⟨none,.not 17 (.t 16)⟩,
 ⟨none,.mov 18 (.t 17)⟩,
 ⟨some (18,false),.fad 19 2 4⟩,
 ⟨some (18,false),.load 20 19 1 false⟩,
 ⟨some (18,false),.bin 21 .eql (.t 20) (.k (.int .i64 3))⟩,
 ⟨none,.pick 22 (.t 18) (.k (.bool true)) (.t 21)⟩,
 ⟨none,.mov 23 (.t 22)⟩,
 ⟨some (23,false),.fad 24 3 0⟩,
 ⟨some (23,false),.load 25 24 1 false⟩,
 ⟨some (23,false),.fad 26 2 4⟩,
 ⟨some (23,false),.load 27 26 1 false⟩,
 ⟨some (23,false),.bin 28 .neq (.t 25) (.t 27)⟩,
 ⟨none,.pick 29 (.t 23) (.k (.bool true)) (.t 28)⟩,
 ⟨none,.mov 30 (.t 29)⟩,
 ⟨some (30,false),.fad 31 3 1⟩,
 ⟨some (30,false),.load 32 31 1 false⟩,
 ⟨some (30,false),.fad 33 2 0⟩,
 ⟨some (30,false),.load 34 33 1 false⟩,
 ⟨some (30,false),.bin 35 .neq (.t 32) (.t 34)⟩,
 ⟨none,.pick 36 (.t 30) (.k (.bool true)) (.t 35)⟩,
 ⟨none,.mov 37 (.t 36)⟩,
 ⟨some (37,false),.fad 38 3 3⟩,
 ⟨some (37,false),.load 39 38 1 false⟩,
 ⟨some (37,false),.mov 40 (.t 6)⟩,
 ⟨some (37,false),.bin 41 .neq (.t 39) (.t 40)⟩,
 ⟨none,.pick 42 (.t 37) (.k (.bool true)) (.t 41)⟩])
 (.cond (.t 42)
 (.seq (.reg [⟨none,.load 43 2 5 true⟩,
 ⟨none,.store 4 5 (.t 43)⟩,
 ⟨none,.mov 5 (.k (.bool false))⟩])
 (.ret))
 (.skip)))
 (.seq (.reg [⟨none,.fad 44 2 4⟩,
 ⟨none,.load 45 44 1 false⟩,
 ⟨none,.bin 46 .add (.t 45) (.k (.int .i64 1))⟩,
 ⟨none,.fad 47 2 4⟩,
 ⟨none,.store 47 1 (.t 46)⟩])
 (.seq (.reg [⟨none,.load 48 2 5 true⟩,
 ⟨none,.store 4 5 (.t 48)⟩,
 ⟨none,.mov 5 (.k (.bool true))⟩])
 (.ret))))))⟩
def r303:RF:=
 ⟨2,[.cell 4 10 true,.tmp 5],
 .seq (.reg [⟨none,.locb 2 (.t 0)⟩,
 ⟨none,.locb 3 (.t 1)⟩,
 ⟨none,.loc 4 [.int .i64 0,.int .u64 0,.int .i64 0,.int .i64 0,.int .u64 0,.int .u64 0,.int .i64 0,.int .i64 0,.nil,.nil]⟩,
 ⟨none,.mov 5 (.k (.bool false))⟩])
 (.seq (.seq (.reg [⟨none,.load 9 2 5 true⟩,
 ⟨none,.call (some 10) 3 [(.t 9)] false⟩,
 ⟨none,.not 11 (.t 10)⟩,
 ⟨none,.mov 12 (.t 11)⟩,
 ⟨some (12,false),.fad 13 2 4⟩,
 ⟨some (12,false),.load 14 13 1 false⟩,
 ⟨some (12,false),.bin 15 .eql (.t 14) (.k (.int .i64 3))⟩,
 ⟨none,.pick 16 (.t 12) (.k (.bool true)) (.t 15)⟩])
 (.cond (.t 16)
 (.seq (.reg [⟨none,.build 17 [.int .i64 0,.int .u64 0,.int .i64 0,.int .i64 0,.int .u64 0,.int .u64 0,.int .i64 0,.int .i64 0,.nil,.nil] []⟩,
 ⟨none,.store 4 10 (.t 17)⟩,
 ⟨none,.mov 5 (.k (.bool false))⟩])
 (.ret))
 (.skip)))
 (.seq (.reg [⟨none,.fad 18 2 4⟩,
 ⟨none,.load 19 18 1 false⟩,
 ⟨none,.fad 20 2 0⟩,
 ⟨none,.load 21 20 1 false⟩,
 ⟨none,.fad 22 2 1⟩,
 ⟨none,.load 23 22 1 false⟩,
 ⟨none,.fad 24 2 3⟩,
 ⟨none,.load 25 24 1 false⟩,
 ⟨none,.build 26 [.int .i64 0,.int .u64 0,.int .i64 0,.int .i64 0,.int .u64 0,.int .u64 0,.int .i64 0,.int .i64 0,.nil,.nil] [(0,1,(.t 19)),(1,1,(.t 21)),(2,1,(.t 23)),(3,1,(.t 25))]⟩,
 ⟨none,.loc 6 [.int .i64 0,.int .u64 0,.int .i64 0,.int .i64 0,.int .u64 0,.int .u64 0,.int .i64 0,.int .i64 0,.nil,.nil]⟩,
 ⟨none,.store 6 10 (.t 26)⟩])
 (.seq (.seq (.reg [⟨none,.fad 27 2 4⟩,
 ⟨none,.load 28 27 1 false⟩,
 ⟨none,.bin 29 .eql (.t 28) (.k (.int .i64 1))⟩])
 (.cond (.t 29)
 (.seq (.reg [⟨none,.load 31 3 3 true⟩,
 ⟨none,.fad 32 2 0⟩,
 ⟨none,.load 33 32 1 false⟩,
 ⟨none,.call (some 34) 189 [(.t 31),(.t 33)] false⟩,
 ⟨none,.mov 30 (.t 34)⟩,
 ⟨none,.ext 35 (.t 30) 0⟩,
 ⟨none,.ext 36 (.t 30) 1⟩,
 ⟨none,.loc 7 [.int .u64 0,.int .u64 0,.int .i64 0,.int .i64 0,.nil,.nil]⟩,
 ⟨none,.store 7 6 (.t 35)⟩,
 ⟨none,.mov 8 (.t 36)⟩])
 (.seq (.seq (.reg [⟨none,.mov 37 (.t 8)⟩,
 ⟨none,.not 38 (.t 37)⟩,
 ⟨none,.mov 39 (.t 38)⟩,
 ⟨some (39,false),.fad 40 7 3⟩,
 ⟨some (39,false),.load 41 40 1 false⟩,
 ⟨some (39,false),.fad 42 2 3⟩,
 ⟨some (39,false),.load 43 42 1 false⟩,
 ⟨some (39,false),.bin 44 .neq (.t 41) (.t 43)⟩,
 ⟨none,.pick 45 (.t 39) (.k (.bool true)) (.t 44)⟩])
 (.cond (.t 45)
 (.seq (.reg [⟨none,.build 46 [.int .i64 0,.int .u64 0,.int .i64 0,.int .i64 0,.int .u64 0,.int .u64 0,.int .i64 0,.int .i64 0,.nil,.nil] []⟩,
 ⟨none,.store 4 10 (.t 46)⟩,
 ⟨none,.mov 5 (.k (.bool false))⟩])
 (.ret))
 (.skip)))
 (.seq (.reg [⟨none,.fad 47 2 2⟩,
 ⟨none,.load 48 47 1 false⟩,
 ⟨none,.fad 49 6 2⟩,
 ⟨none,.store 49 1 (.t 48)⟩])
 (.seq (.reg [⟨none,.fad 50 2 3⟩,
 ⟨none,.load 51 50 1 false⟩,
 ⟨none,.bin 52 .add (.t 51) (.k (.int .i64 1))⟩,
 ⟨none,.fad 53 6 3⟩,
 ⟨none,.store 53 1 (.t 52)⟩])
 (.reg [⟨none,.load 54 7 6 true⟩,
 ⟨none,.fad 55 6 4⟩,
 ⟨none,.store 55 6 (.t 54)⟩])))))
 (.skip)))
 (.seq (.reg [⟨none,.load 56 6 10 true⟩,
 ⟨none,.store 4 10 (.t 56)⟩,
 ⟨none,.mov 5 (.k (.bool true))⟩])
 (.ret)))))⟩
def r314:RF:=
 ⟨2,[.cell 4 3 true,.tmp 5],
 .seq (.reg [⟨none,.locb 2 (.t 0)⟩,
 ⟨none,.locb 3 (.t 1)⟩,
 ⟨none,.loc 4 [.int .i64 0,.int .i64 0,.nil]⟩,
 ⟨none,.mov 5 (.k (.bool false))⟩])
 (.seq (.seq (.reg [⟨none,.fad 8 2 0⟩,
 ⟨none,.load 9 8 1 false⟩,
 ⟨none,.fad 10 3 2⟩,
 ⟨none,.load 11 10 1 false⟩,
 ⟨none,.bin 12 .neq (.t 9) (.t 11)⟩])
 (.cond (.t 12)
 (.seq (.reg [⟨none,.load 13 2 3 true⟩,
 ⟨none,.call (some 14) 317 [(.t 13)] false⟩,
 ⟨none,.store 4 3 (.t 14)⟩,
 ⟨none,.mov 5 (.k (.bool false))⟩])
 (.ret))
 (.skip)))
 (.seq (.reg [⟨none,.mov 6 (.k (.bool false))⟩])
 (.seq (.reg [⟨none,.load 15 2 3 true⟩,
 ⟨none,.loc 7 [.int .i64 0,.int .i64 0,.nil]⟩,
 ⟨none,.store 7 3 (.t 15)⟩])
 (.seq (.seq (.reg [⟨none,.fad 16 3 0⟩,
 ⟨none,.load 17 16 1 false⟩])
 (.block 0 (.seq (.reg [⟨none,.bin 19 .eql (.t 17) (.k (.int .i64 0))⟩,
 ⟨none,.mov 18 (.t 19)⟩])
 (.cond (.t 18)
 (.reg [⟨none,.load 21 2 3 true⟩,
 ⟨none,.fad 22 3 1⟩,
 ⟨none,.load 23 22 1 false⟩,
 ⟨none,.fad 24 3 3⟩,
 ⟨none,.load 25 24 1 false⟩,
 ⟨none,.call (some 26) 300 [(.t 21),(.t 23),(.t 25)] false⟩,
 ⟨none,.mov 20 (.t 26)⟩,
 ⟨none,.ext 27 (.t 20) 0⟩,
 ⟨none,.ext 28 (.t 20) 1⟩,
 ⟨none,.store 7 3 (.t 27)⟩,
 ⟨none,.mov 6 (.t 28)⟩])
 (.seq (.reg [⟨none,.bin 30 .eql (.t 17) (.k (.int .i64 1))⟩,
 ⟨none,.mov 29 (.t 30)⟩])
 (.cond (.t 29)
 (.reg [⟨none,.load 32 2 3 true⟩,
 ⟨none,.fad 33 3 4⟩,
 ⟨none,.load 34 33 6 true⟩,
 ⟨none,.fad 35 3 3⟩,
 ⟨none,.load 36 35 1 false⟩,
 ⟨none,.call (some 37) 308 [(.t 32),(.t 34),(.t 36)] false⟩,
 ⟨none,.mov 31 (.t 37)⟩,
 ⟨none,.ext 38 (.t 31) 0⟩,
 ⟨none,.ext 39 (.t 31) 1⟩,
 ⟨none,.store 7 3 (.t 38)⟩,
 ⟨none,.mov 6 (.t 39)⟩])
 (.seq (.reg [⟨none,.bin 41 .eql (.t 17) (.k (.int .i64 2))⟩,
 ⟨none,.mov 40 (.t 41)⟩])
 (.cond (.t 40)
 (.reg [⟨none,.load 43 2 3 true⟩,
 ⟨none,.fad 44 3 1⟩,
 ⟨none,.load 45 44 1 false⟩,
 ⟨none,.fad 46 3 3⟩,
 ⟨none,.load 47 46 1 false⟩,
 ⟨none,.call (some 48) 297 [(.t 43),(.t 45),(.t 47)] false⟩,
 ⟨none,.mov 42 (.t 48)⟩,
 ⟨none,.ext 49 (.t 42) 0⟩,
 ⟨none,.ext 50 (.t 42) 1⟩,
 ⟨none,.store 7 3 (.t 49)⟩,
 ⟨none,.mov 6 (.t 50)⟩])
 (.skip)))))))))
 (.seq (.reg [⟨none,.load 51 7 3 true⟩,
 ⟨none,.call (some 52) 317 [(.t 51)] false⟩,
 ⟨none,.mov 53 (.t 6)⟩,
 ⟨none,.store 4 3 (.t 52)⟩,
 ⟨none,.mov 5 (.t 53)⟩])
 (.ret))))))⟩
def WbT:RC:=
 .seq (.seq (.reg [⟨none,.mov 127 (.t 20)⟩,
 ⟨none,.mov 128 (.t 11)⟩,
 ⟨none,.len 129 (.t 128)⟩,
 ⟨none,.bin 130 .lss (.t 127) (.t 129)⟩])
 (.cond (.t 130)
 (.skip)
 (.exit 2)))
 (.seq (.block 3 (.seq (.reg [⟨none,.mov 133 (.t 20)⟩,
 ⟨none,.mov 134 (.t 17)⟩,
 ⟨none,.bin 135 .neq (.t 133) (.t 134)⟩])
 (.cond (.t 135)
 (.reg [⟨none,.mov 136 (.t 19)⟩,
 ⟨none,.mov 137 (.t 11)⟩,
 ⟨none,.mov 138 (.t 20)⟩,
 ⟨none,.idx 139 22 (.t 137) (.t 138)⟩,
 ⟨none,.load 140 139 10 true⟩,
 ⟨none,.lit 141 22 1 [.int .i64 0,.int .u64 0,.int .i64 0,.int .i64 0,.int .u64 0,.int .u64 0,.int .i64 0,.int .i64 0,.nil,.nil] [(0,(.t 140))]⟩,
 ⟨none,.app 142 22 112 (.t 136) (.t 141)⟩,
 ⟨none,.mov 19 (.t 142)⟩])
 (.skip))))
 (.reg [⟨none,.mov 131 (.t 20)⟩,
 ⟨none,.bin 132 .add (.t 131) (.k (.int .i64 1))⟩,
 ⟨none,.mov 20 (.t 132)⟩]))
def Wbo:RC:=
 .seq (.seq (.reg [⟨none,.mov 64 (.t 14)⟩,
 ⟨none,.mov 65 (.t 3)⟩,
 ⟨none,.len 66 (.t 65)⟩,
 ⟨none,.bin 67 .lss (.t 64) (.t 66)⟩])
 (.cond (.t 67)
 (.skip)
 (.exit 0)))
 (.seq (.block 1 (.seq (.seq (.reg [⟨none,.mov 70 (.t 3)⟩,
 ⟨none,.mov 71 (.t 14)⟩,
 ⟨none,.idx 72 15 (.t 70) (.t 71)⟩,
 ⟨none,.load 73 72 1 false⟩,
 ⟨none,.bin 74 .eql (.t 73) (.k (.int .i64 0))⟩])
 (.cond (.t 74)
 (.seq (.reg [⟨none,.load 76 4 5 true⟩,
 ⟨none,.load 77 12 3 true⟩,
 ⟨none,.call (some 78) 303 [(.t 76),(.t 77)] false⟩,
 ⟨none,.mov 75 (.t 78)⟩,
 ⟨none,.ext 79 (.t 75) 0⟩,
 ⟨none,.ext 80 (.t 75) 1⟩,
 ⟨none,.loc 15 [.int .i64 0,.int .u64 0,.int .i64 0,.int .i64 0,.int .u64 0,.int .u64 0,.int .i64 0,.int .i64 0,.nil,.nil]⟩,
 ⟨none,.store 15 10 (.t 79)⟩,
 ⟨none,.mov 16 (.t 80)⟩])
 (.seq (.seq (.reg [⟨none,.mov 81 (.t 16)⟩,
 ⟨none,.mov 82 (.t 81)⟩,
 ⟨some (82,true),.mov 83 (.t 11)⟩,
 ⟨some (82,true),.len 84 (.t 83)⟩,
 ⟨some (82,true),.bin 85 .lss (.t 84) (.k (.int .i64 40))⟩,
 ⟨none,.pick 86 (.t 82) (.t 85) (.k (.bool false))⟩])
 (.cond (.t 86)
 (.reg [⟨none,.mov 87 (.t 11)⟩,
 ⟨none,.load 88 15 10 true⟩,
 ⟨none,.lit 89 22 1 [.int .i64 0,.int .u64 0,.int .i64 0,.int .i64 0,.int .u64 0,.int .u64 0,.int .i64 0,.int .i64 0,.nil,.nil] [(0,(.t 88))]⟩,
 ⟨none,.app 90 22 112 (.t 87) (.t 89)⟩,
 ⟨none,.mov 11 (.t 90)⟩])
 (.skip)))
 (.exit 1)))
 (.skip)))
 (.seq (.reg [⟨none,.mov 91 (.t 3)⟩,
 ⟨none,.mov 92 (.t 14)⟩,
 ⟨none,.idx 93 15 (.t 91) (.t 92)⟩,
 ⟨none,.load 94 93 1 false⟩,
 ⟨none,.bin 95 .sub (.t 94) (.k (.int .i64 1))⟩,
 ⟨none,.bin 96 .quo (.t 95) (.k (.int .i64 3))⟩,
 ⟨none,.mov 17 (.t 96)⟩])
 (.seq (.seq (.reg [⟨none,.mov 97 (.t 3)⟩,
 ⟨none,.mov 98 (.t 14)⟩,
 ⟨none,.idx 99 15 (.t 97) (.t 98)⟩,
 ⟨none,.load 100 99 1 false⟩,
 ⟨none,.bin 101 .lss (.t 100) (.k (.int .i64 0))⟩,
 ⟨none,.mov 102 (.t 101)⟩,
 ⟨some (102,false),.mov 103 (.t 17)⟩,
 ⟨some (102,false),.mov 104 (.t 11)⟩,
 ⟨some (102,false),.len 105 (.t 104)⟩,
 ⟨some (102,false),.bin 106 .geq (.t 103) (.t 105)⟩,
 ⟨none,.pick 107 (.t 102) (.k (.bool true)) (.t 106)⟩])
 (.cond (.t 107)
 (.exit 1)
 (.skip)))
 (.seq (.reg [⟨none,.mov 108 (.t 11)⟩,
 ⟨none,.mov 109 (.t 17)⟩,
 ⟨none,.idx 110 22 (.t 108) (.t 109)⟩,
 ⟨none,.load 111 110 10 true⟩,
 ⟨none,.loc 18 [.int .i64 0,.int .u64 0,.int .i64 0,.int .i64 0,.int .u64 0,.int .u64 0,.int .i64 0,.int .i64 0,.nil,.nil]⟩,
 ⟨none,.store 18 10 (.t 111)⟩])
 (.seq (.seq (.reg [⟨none,.mov 112 (.t 3)⟩,
 ⟨none,.mov 113 (.t 14)⟩,
 ⟨none,.idx 114 15 (.t 112) (.t 113)⟩,
 ⟨none,.load 115 114 1 false⟩,
 ⟨none,.bin 116 .sub (.t 115) (.k (.int .i64 1))⟩,
 ⟨none,.bin 117 .rem (.t 116) (.k (.int .i64 3))⟩,
 ⟨none,.bin 118 .eql (.t 117) (.k (.int .i64 2))⟩])
 (.cond (.t 118)
 (.seq (.seq (.reg [⟨none,.mov 119 (.t 11)⟩,
 ⟨none,.len 120 (.t 119)⟩,
 ⟨none,.bin 121 .lss (.t 120) (.k (.int .i64 40))⟩])
 (.cond (.t 121)
 (.reg [⟨none,.mov 122 (.t 11)⟩,
 ⟨none,.load 123 18 10 true⟩,
 ⟨none,.lit 124 22 1 [.int .i64 0,.int .u64 0,.int .i64 0,.int .i64 0,.int .u64 0,.int .u64 0,.int .i64 0,.int .i64 0,.nil,.nil] [(0,(.t 123))]⟩,
 ⟨none,.app 125 22 112 (.t 122) (.t 124)⟩,
 ⟨none,.mov 11 (.t 125)⟩])
 (.skip)))
 (.exit 1))
 (.skip)))
 (.seq (.reg [⟨none,.lit 126 22 0 [.int .i64 0,.int .u64 0,.int .i64 0,.int .i64 0,.int .u64 0,.int .u64 0,.int .i64 0,.int .i64 0,.nil,.nil] []⟩,
 ⟨none,.mov 19 (.t 126)⟩])
 (.seq (.seq (.reg [⟨none,.mov 20 (.k (.int .i64 0))⟩])
 (.block 2 (.loop [3,4,8,9,10,11,12,13,14,17,18,19,20]
 WbT)))
 (.seq (.reg [⟨none,.mov 143 (.t 19)⟩,
 ⟨none,.mov 11 (.t 143)⟩])
 (.seq (.seq (.reg [⟨none,.mov 144 (.t 3)⟩,
 ⟨none,.mov 145 (.t 14)⟩,
 ⟨none,.idx 146 15 (.t 144) (.t 145)⟩,
 ⟨none,.load 147 146 1 false⟩,
 ⟨none,.bin 148 .sub (.t 147) (.k (.int .i64 1))⟩,
 ⟨none,.bin 149 .rem (.t 148) (.k (.int .i64 3))⟩,
 ⟨none,.bin 150 .eql (.t 149) (.k (.int .i64 1))⟩])
 (.cond (.t 150)
 (.exit 1)
 (.skip)))
 (.seq (.reg [⟨none,.mov 21 (.k (.bool false))⟩])
 (.seq (.seq (.reg [⟨none,.fad 151 18 2⟩,
 ⟨none,.load 152 151 1 false⟩,
 ⟨none,.fad 153 4 1⟩,
 ⟨none,.load 154 153 1 false⟩,
 ⟨none,.bin 155 .eql (.t 152) (.t 154)⟩])
 (.cond (.t 155)
 (.reg [⟨none,.load 157 12 3 true⟩,
 ⟨none,.load 158 18 10 true⟩,
 ⟨none,.call (some 159) 314 [(.t 157),(.t 158)] false⟩,
 ⟨none,.mov 156 (.t 159)⟩,
 ⟨none,.ext 160 (.t 156) 0⟩,
 ⟨none,.ext 161 (.t 156) 1⟩,
 ⟨none,.store 12 3 (.t 160)⟩,
 ⟨none,.mov 21 (.t 161)⟩])
 (.reg [⟨none,.load 163 13 3 true⟩,
 ⟨none,.load 164 18 10 true⟩,
 ⟨none,.call (some 165) 314 [(.t 163),(.t 164)] false⟩,
 ⟨none,.mov 162 (.t 165)⟩,
 ⟨none,.ext 166 (.t 162) 0⟩,
 ⟨none,.ext 167 (.t 162) 1⟩,
 ⟨none,.store 13 3 (.t 166)⟩,
 ⟨none,.mov 21 (.t 167)⟩])))
 (.seq (.reg [⟨none,.mov 168 (.t 21)⟩])
 (.cond (.t 168)
 (.reg [⟨none,.load 170 4 5 true⟩,
 ⟨none,.load 171 18 10 true⟩,
 ⟨none,.call (some 172) 84 [(.t 170),(.t 171)] false⟩,
 ⟨none,.mov 169 (.t 172)⟩,
 ⟨none,.ext 173 (.t 169) 0⟩,
 ⟨none,.ext 174 (.t 169) 1⟩,
 ⟨none,.store 4 5 (.t 173)⟩])
 (.skip)))))))))))))))
 (.reg [⟨none,.mov 68 (.t 14)⟩,
 ⟨none,.bin 69 .add (.t 68) (.k (.int .i64 1))⟩,
 ⟨none,.mov 14 (.t 69)⟩]))
def r367:RF:=
 ⟨4,[.cell 8 5 true,.cell 9 3 true,.cell 10 3 true],
 .seq (.reg [⟨none,.locb 4 (.t 0)⟩,
 ⟨none,.locb 5 (.t 1)⟩,
 ⟨none,.locb 6 (.t 2)⟩,
 ⟨none,.loc 8 [.int .u64 0,.int .i64 0,.int .i64 0,.int .i64 0,.int .i64 0]⟩,
 ⟨none,.loc 9 [.int .i64 0,.int .i64 0,.nil]⟩,
 ⟨none,.loc 10 [.int .i64 0,.int .i64 0,.nil]⟩])
 (.seq (.seq (.reg [⟨none,.load 22 4 5 true⟩,
 ⟨none,.call (some 23) 3 [(.t 22)] false⟩,
 ⟨none,.not 24 (.t 23)⟩,
 ⟨none,.mov 25 (.t 24)⟩,
 ⟨some (25,false),.load 26 5 3 true⟩,
 ⟨some (25,false),.call (some 27) 156 [(.t 26)] false⟩,
 ⟨some (25,false),.not 28 (.t 27)⟩,
 ⟨none,.pick 29 (.t 25) (.k (.bool true)) (.t 28)⟩,
 ⟨none,.mov 30 (.t 29)⟩,
 ⟨some (30,false),.load 31 6 3 true⟩,
 ⟨some (30,false),.call (some 32) 156 [(.t 31)] false⟩,
 ⟨some (30,false),.not 33 (.t 32)⟩,
 ⟨none,.pick 34 (.t 30) (.k (.bool true)) (.t 33)⟩,
 ⟨none,.mov 35 (.t 34)⟩,
 ⟨some (35,false),.fad 36 5 0⟩,
 ⟨some (35,false),.load 37 36 1 false⟩,
 ⟨some (35,false),.fad 38 4 1⟩,
 ⟨some (35,false),.load 39 38 1 false⟩,
 ⟨some (35,false),.bin 40 .neq (.t 37) (.t 39)⟩,
 ⟨none,.pick 41 (.t 35) (.k (.bool true)) (.t 40)⟩,
 ⟨none,.mov 42 (.t 41)⟩,
 ⟨some (42,false),.fad 43 6 0⟩,
 ⟨some (42,false),.load 44 43 1 false⟩,
 ⟨some (42,false),.fad 45 4 2⟩,
 ⟨some (42,false),.load 46 45 1 false⟩,
 ⟨some (42,false),.bin 47 .neq (.t 44) (.t 46)⟩,
 ⟨none,.pick 48 (.t 42) (.k (.bool true)) (.t 47)⟩,
 ⟨none,.mov 49 (.t 48)⟩,
 ⟨some (49,false),.mov 50 (.t 3)⟩,
 ⟨some (49,false),.len 51 (.t 50)⟩,
 ⟨some (49,false),.bin 52 .gtr (.t 51) (.k (.int .i64 200))⟩,
 ⟨none,.pick 53 (.t 49) (.k (.bool true)) (.t 52)⟩])
 (.cond (.t 53)
 (.seq (.reg [⟨none,.chk []⟩,
 ⟨none,.load 54 4 5 true⟩,
 ⟨none,.load 55 5 3 true⟩,
 ⟨none,.load 57 6 3 true⟩,
 ⟨none,.call (some 56) 317 [(.t 55)] true⟩,
 ⟨none,.call (some 58) 317 [(.t 57)] true⟩,
 ⟨none,.store 8 5 (.t 54)⟩,
 ⟨none,.store 9 3 (.t 56)⟩,
 ⟨none,.store 10 3 (.t 58)⟩])
 (.ret))
 (.skip)))
 (.seq (.reg [⟨none,.lit 59 22 0 [.int .i64 0,.int .u64 0,.int .i64 0,.int .i64 0,.int .u64 0,.int .u64 0,.int .i64 0,.int .i64 0,.nil,.nil] []⟩,
 ⟨none,.mov 11 (.t 59)⟩])
 (.seq (.reg [⟨none,.chk [12,13]⟩,
 ⟨none,.loc 12 [.int .i64 0,.int .i64 0,.nil]⟩,
 ⟨none,.loc 13 [.int .i64 0,.int .i64 0,.nil]⟩,
 ⟨none,.load 60 5 3 true⟩,
 ⟨none,.load 62 6 3 true⟩,
 ⟨none,.call (some 61) 317 [(.t 60)] true⟩,
 ⟨none,.call (some 63) 317 [(.t 62)] true⟩,
 ⟨none,.store 12 3 (.t 61)⟩,
 ⟨none,.store 13 3 (.t 63)⟩])
 (.seq (.seq (.reg [⟨none,.mov 14 (.k (.int .i64 0))⟩])
 (.block 0 (.loop [3,4,8,9,10,11,12,13,14]
 Wbo)))
 (.seq (.reg [⟨none,.chk []⟩,
 ⟨none,.own [8,9]⟩,
 ⟨none,.load 175 4 5 true⟩,
 ⟨none,.load 176 12 3 true⟩,
 ⟨none,.load 177 13 3 true⟩,
 ⟨none,.lst 8 5 (.t 175)⟩,
 ⟨none,.lst 9 3 (.t 176)⟩,
 ⟨none,.store 10 3 (.t 177)⟩])
 (.ret))))))⟩
def r409:RF:=
 ⟨1,[.cell 2 5 true,.cell 3 3 true,.cell 4 3 true,.tmp 5],
 .seq (.reg [⟨none,.loc 2 [.int .u64 0,.int .i64 0,.int .i64 0,.int .i64 0,.int .i64 0]⟩,
 ⟨none,.loc 3 [.int .i64 0,.int .i64 0,.nil]⟩,
 ⟨none,.loc 4 [.int .i64 0,.int .i64 0,.nil]⟩,
 ⟨none,.mov 5 (.k (.nil))⟩])
 (.seq (.reg [⟨none,.mov 10 (.t 0)⟩,
 ⟨none,.call (some 11) 194 [(.t 10)] false⟩,
 ⟨none,.mov 6 (.t 11)⟩])
 (.seq (.reg [⟨none,.mov 13 (.t 6)⟩,
 ⟨none,.mov 14 (.t 0)⟩,
 ⟨none,.call (some 15) 410 [(.t 13),(.t 14)] false⟩,
 ⟨none,.mov 12 (.t 15)⟩,
 ⟨none,.ext 16 (.t 12) 0⟩,
 ⟨none,.ext 17 (.t 12) 1⟩,
 ⟨none,.ext 18 (.t 12) 2⟩,
 ⟨none,.loc 7 [.int .u64 0,.int .i64 0,.int .i64 0,.int .i64 0,.int .i64 0]⟩,
 ⟨none,.loc 8 [.int .i64 0,.int .i64 0,.nil]⟩,
 ⟨none,.loc 9 [.int .i64 0,.int .i64 0,.nil]⟩,
 ⟨none,.store 7 5 (.t 16)⟩,
 ⟨none,.store 8 3 (.t 17)⟩,
 ⟨none,.store 9 3 (.t 18)⟩])
 (.seq (.reg [⟨none,.chk []⟩,
 ⟨none,.own [2,3]⟩,
 ⟨none,.mov 22 (.t 6)⟩,
 ⟨none,.mov 23 (.t 0)⟩,
 ⟨none,.lld 19 7 5 true⟩,
 ⟨none,.lld 20 8 3 true⟩,
 ⟨none,.lld 21 9 3 true⟩,
 ⟨none,.call (some 24) 411 [(.t 22),(.t 23)] false⟩,
 ⟨none,.lst 2 5 (.t 19)⟩,
 ⟨none,.lst 3 3 (.t 20)⟩,
 ⟨none,.store 4 3 (.t 21)⟩,
 ⟨none,.mov 5 (.t 24)⟩])
 (.ret))))⟩
def r410:RF:=
 ⟨2,[.cell 4 5 true,.cell 5 3 true,.cell 6 3 true],
 .seq (.reg [⟨none,.loc 4 [.int .u64 0,.int .i64 0,.int .i64 0,.int .i64 0,.int .i64 0]⟩,
 ⟨none,.loc 5 [.int .i64 0,.int .i64 0,.nil]⟩,
 ⟨none,.loc 6 [.int .i64 0,.int .i64 0,.nil]⟩])
 (.seq (.reg [⟨none,.mov 10 (.t 0)⟩,
 ⟨none,.mov 11 (.t 1)⟩,
 ⟨none,.call (some 12) 392 [(.t 10),(.t 11),(.k (.int .i64 1))] false⟩,
 ⟨none,.loc 7 [.int .i64 0,.int .i64 0,.nil]⟩,
 ⟨none,.store 7 3 (.t 12)⟩])
 (.seq (.reg [⟨none,.mov 13 (.t 0)⟩,
 ⟨none,.call (some 14) 236 [(.t 13),(.k (.int .i64 4))] false⟩,
 ⟨none,.bin 15 .add (.k (.int .i64 1)) (.t 14)⟩,
 ⟨none,.build 16 [.int .i64 0,.int .i64 0,.nil] [(0,1,(.k (.int .i64 2))),(1,1,(.t 15))]⟩,
 ⟨none,.loc 8 [.int .i64 0,.int .i64 0,.nil]⟩,
 ⟨none,.store 8 3 (.t 16)⟩])
 (.seq (.reg [⟨none,.fad 17 7 1⟩,
 ⟨none,.load 18 17 1 false⟩,
 ⟨none,.bin 19 .add (.t 18) (.k (.int .i64 1))⟩,
 ⟨none,.build 20 [.int .u64 0,.int .i64 0,.int .i64 0,.int .i64 0,.int .i64 0] [(1,1,(.k (.int .i64 1))),(2,1,(.k (.int .i64 2))),(3,1,(.t 19))]⟩,
 ⟨none,.loc 9 [.int .u64 0,.int .i64 0,.int .i64 0,.int .i64 0,.int .i64 0]⟩,
 ⟨none,.store 9 5 (.t 20)⟩])
 (.seq (.seq (.reg [⟨none,.fad 21 8 1⟩,
 ⟨none,.load 22 21 1 false⟩,
 ⟨none,.fad 23 9 3⟩,
 ⟨none,.load 24 23 1 false⟩,
 ⟨none,.bin 25 .gtr (.t 22) (.t 24)⟩])
 (.cond (.t 25)
 (.reg [⟨none,.chk []⟩,
 ⟨none,.mov 28 (.t 0)⟩,
 ⟨none,.fad 26 8 1⟩,
 ⟨none,.lld 27 26 1 false⟩,
 ⟨none,.call (some 29) 236 [(.t 28),(.k (.int .i64 2))] false⟩,
 ⟨none,.bin 30 .add (.t 27) (.t 29)⟩,
 ⟨none,.fad 31 9 3⟩,
 ⟨none,.store 31 1 (.t 30)⟩])
 (.skip)))
 (.seq (.reg [⟨none,.chk []⟩,
 ⟨none,.mov 34 (.t 0)⟩,
 ⟨none,.fad 32 7 2⟩,
 ⟨none,.lld 33 32 1 false⟩,
 ⟨none,.fad 35 7 2⟩,
 ⟨none,.load 36 35 1 false⟩,
 ⟨none,.len 37 (.t 36)⟩,
 ⟨none,.call (some 38) 236 [(.t 34),(.t 37)] false⟩,
 ⟨none,.idx 39 16 (.t 33) (.t 38)⟩,
 ⟨none,.fad 40 39 0⟩,
 ⟨none,.load 41 40 1 false⟩,
 ⟨none,.fad 42 9 0⟩,
 ⟨none,.store 42 1 (.t 41)⟩])
 (.seq (.reg [⟨none,.chk []⟩,
 ⟨none,.own [4,5]⟩,
 ⟨none,.load 43 9 5 true⟩,
 ⟨none,.load 44 7 3 true⟩,
 ⟨none,.load 45 8 3 true⟩,
 ⟨none,.lst 4 5 (.t 43)⟩,
 ⟨none,.lst 5 3 (.t 44)⟩,
 ⟨none,.store 6 3 (.t 45)⟩])
 (.ret)))))))⟩
def r411L0:RC:=
 .seq (.seq (.reg [⟨none,.mov 13 (.t 6)⟩,
 ⟨none,.bin 14 .gtr (.t 13) (.k (.int .i64 0))⟩])
 (.cond (.t 14)
 (.skip)
 (.exit 0)))
 (.seq (.block 1 (.reg [⟨none,.mov 17 (.t 5)⟩,
 ⟨none,.mov 18 (.t 0)⟩,
 ⟨none,.mov 19 (.t 0)⟩,
 ⟨none,.call (some 20) 236 [(.t 19),(.k (.int .i64 12))] false⟩,
 ⟨none,.lit 21 15 13 [.int .i64 0] [(0,(.k (.int .i64 0))),(1,(.k (.int .i64 0))),(2,(.k (.int .i64 0))),(3,(.k (.int .i64 1))),(4,(.k (.int .i64 1))),(5,(.k (.int .i64 1))),(6,(.k (.int .i64 1))),(7,(.k (.int .i64 4))),(8,(.k (.int .i64 2))),(9,(.k (.int .i64 3))),(10,(.k (.int .i64 7))),(11,(.t 20)),(12,(.k (.int .i64 (-1))))]⟩,
 ⟨none,.call (some 22) 239 [(.t 18),(.t 21)] false⟩,
 ⟨none,.lit 23 15 1 [.int .i64 0] [(0,(.t 22))]⟩,
 ⟨none,.app 24 15 8 (.t 17) (.t 23)⟩,
 ⟨none,.mov 5 (.t 24)⟩]))
 (.reg [⟨none,.mov 15 (.t 6)⟩,
 ⟨none,.bin 16 .sub (.t 15) (.k (.int .i64 1))⟩,
 ⟨none,.mov 6 (.t 16)⟩]))
def r411:RF:=
 ⟨2,[.tmp 4],
 .seq (.reg [⟨none,.mov 4 (.k (.nil))⟩])
 (.seq (.reg [⟨none,.lit 7 15 0 [.int .i64 0] []⟩,
 ⟨none,.mov 5 (.t 7)⟩])
 (.seq (.seq (.reg [⟨none,.mov 8 (.t 0)⟩,
 ⟨none,.mov 9 (.t 1)⟩,
 ⟨none,.call (some 10) 238 [(.t 9),(.k (.int .i64 24))] false⟩,
 ⟨none,.bin 11 .add (.k (.int .i64 6)) (.t 10)⟩,
 ⟨none,.call (some 12) 236 [(.t 8),(.t 11)] false⟩,
 ⟨none,.mov 6 (.t 12)⟩])
 (.block 0 (.loop [0,5,6]
 r411L0)))
 (.seq (.reg [⟨none,.mov 25 (.t 5)⟩,
 ⟨none,.mov 4 (.t 25)⟩])
 (.ret))))⟩
def tS15:List (Nat×RF):=[(3,r3),(84,r84),(303,r303),(314,r314),(367,r367),(409,r409),(410,r410),(411,r411)]
def r412L0:RC:=
 .seq (.seq (.reg [⟨none,.mov 107 (.t 16)⟩,
 ⟨none,.mov 108 (.t 9)⟩,
 ⟨none,.len 109 (.t 108)⟩,
 ⟨none,.bin 110 .lss (.t 107) (.t 109)⟩])
 (.cond (.t 110)
 (.skip)
 (.exit 2)))
 (.seq (.block 3 (.seq (.reg [⟨none,.chk []⟩,
 ⟨none,.mov 116 (.t 9)⟩,
 ⟨none,.mov 117 (.t 16)⟩,
 ⟨none,.idx 118 13 (.t 116) (.t 117)⟩,
 ⟨none,.load 113 12 3 true⟩,
 ⟨none,.load 114 13 3 true⟩,
 ⟨none,.load 119 118 1 false⟩,
 ⟨none,.lit 115 18 2 [.int .i64 0,.int .i64 0,.nil] [(0,(.t 113)),(1,(.t 114))]⟩,
 ⟨none,.call (some 120) 284 [(.t 115),(.t 119)] true⟩,
 ⟨none,.len 121 (.t 120)⟩,
 ⟨none,.bin 122 .gtr (.t 121) (.k (.int .i64 1))⟩])
 (.cond (.t 122)
 (.seq (.reg [⟨none,.mov 2 (.k (.bool false))⟩])
 (.ret))
 (.skip))))
 (.reg [⟨none,.mov 111 (.t 16)⟩,
 ⟨none,.bin 112 .add (.t 111) (.k (.int .i64 1))⟩,
 ⟨none,.mov 16 (.t 112)⟩]))
def r412L1:RC:=
 .seq (.seq (.reg [⟨none,.mov 49 (.t 10)⟩,
 ⟨none,.mov 50 (.t 6)⟩,
 ⟨none,.len 51 (.t 50)⟩,
 ⟨none,.bin 52 .leq (.t 49) (.t 51)⟩])
 (.cond (.t 52)
 (.skip)
 (.exit 0)))
 (.seq (.block 1 (.seq (.reg [⟨none,.chk [11,12,13]⟩,
 ⟨none,.loc 11 [.int .u64 0,.int .i64 0,.int .i64 0,.int .i64 0,.int .i64 0]⟩,
 ⟨none,.loc 12 [.int .i64 0,.int .i64 0,.nil]⟩,
 ⟨none,.loc 13 [.int .i64 0,.int .i64 0,.nil]⟩,
 ⟨none,.mov 63 (.t 6)⟩,
 ⟨none,.mov 64 (.t 10)⟩,
 ⟨none,.cut 65 15 (.t 63) none (some (.t 64))⟩,
 ⟨none,.load 60 3 5 true⟩,
 ⟨none,.load 61 4 3 true⟩,
 ⟨none,.load 62 5 3 true⟩,
 ⟨none,.call (some 66) 368 [(.t 60),(.t 61),(.t 62),(.t 65)] true⟩,
 ⟨none,.mov 59 (.t 66)⟩,
 ⟨none,.ext 67 (.t 59) 0⟩,
 ⟨none,.ext 68 (.t 59) 1⟩,
 ⟨none,.ext 69 (.t 59) 2⟩,
 ⟨none,.store 11 5 (.t 67)⟩,
 ⟨none,.store 12 3 (.t 68)⟩,
 ⟨none,.store 13 3 (.t 69)⟩])
 (.seq (.reg [⟨none,.load 71 12 3 true⟩,
 ⟨none,.load 72 13 3 true⟩,
 ⟨none,.lit 73 18 2 [.int .i64 0,.int .i64 0,.nil] [(0,(.t 71)),(1,(.t 72))]⟩,
 ⟨none,.call (some 74) 172 [(.t 73)] false⟩,
 ⟨none,.mov 70 (.t 74)⟩,
 ⟨none,.ext 75 (.t 70) 0⟩,
 ⟨none,.ext 76 (.t 70) 1⟩,
 ⟨none,.mov 14 (.t 75)⟩,
 ⟨none,.mov 15 (.t 76)⟩])
 (.seq (.seq (.reg [⟨none,.load 77 11 5 true⟩,
 ⟨none,.call (some 78) 4 [(.t 77)] false⟩,
 ⟨none,.not 79 (.t 78)⟩,
 ⟨none,.mov 80 (.t 79)⟩,
 ⟨some (80,false),.load 81 12 3 true⟩,
 ⟨some (80,false),.call (some 82) 157 [(.t 81)] false⟩,
 ⟨some (80,false),.not 83 (.t 82)⟩,
 ⟨none,.pick 84 (.t 80) (.k (.bool true)) (.t 83)⟩,
 ⟨none,.mov 85 (.t 84)⟩,
 ⟨some (85,false),.load 86 13 3 true⟩,
 ⟨some (85,false),.call (some 87) 157 [(.t 86)] false⟩,
 ⟨some (85,false),.not 88 (.t 87)⟩,
 ⟨none,.pick 89 (.t 85) (.k (.bool true)) (.t 88)⟩,
 ⟨none,.mov 90 (.t 89)⟩,
 ⟨some (90,false),.mov 91 (.t 14)⟩,
 ⟨some (90,false),.mov 92 (.t 7)⟩,
 ⟨some (90,false),.bin 93 .neq (.t 91) (.t 92)⟩,
 ⟨none,.pick 94 (.t 90) (.k (.bool true)) (.t 93)⟩,
 ⟨none,.mov 95 (.t 94)⟩,
 ⟨some (95,false),.mov 96 (.t 15)⟩,
 ⟨some (95,false),.mov 97 (.t 8)⟩,
 ⟨some (95,false),.bin 98 .neq (.t 96) (.t 97)⟩,
 ⟨none,.pick 99 (.t 95) (.k (.bool true)) (.t 98)⟩,
 ⟨none,.mov 100 (.t 99)⟩,
 ⟨some (100,false),.fad 101 11 4⟩,
 ⟨some (100,false),.load 102 101 1 false⟩,
 ⟨some (100,false),.fad 103 3 4⟩,
 ⟨some (100,false),.load 104 103 1 false⟩,
 ⟨some (100,false),.bin 105 .lss (.t 102) (.t 104)⟩,
 ⟨none,.pick 106 (.t 100) (.k (.bool true)) (.t 105)⟩])
 (.cond (.t 106)
 (.seq (.reg [⟨none,.mov 2 (.k (.bool false))⟩])
 (.ret))
 (.skip)))
 (.seq (.reg [⟨none,.mov 16 (.k (.int .i64 0))⟩])
 (.block 2 (.loop [3,4,5,6,7,8,9,10,12,13,16]
 r412L0)))))))
 (.reg [⟨none,.mov 53 (.t 10)⟩,
 ⟨none,.bin 54 .add (.t 53) (.k (.int .i64 1))⟩,
 ⟨none,.mov 55 (.t 6)⟩,
 ⟨none,.len 56 (.t 55)⟩,
 ⟨none,.bin 57 .quo (.t 56) (.k (.int .i64 6))⟩,
 ⟨none,.bin 58 .add (.t 54) (.t 57)⟩,
 ⟨none,.mov 10 (.t 58)⟩]))
def r412:RF:=
 ⟨1,[.tmp 2],
 .seq (.reg [⟨none,.mov 2 (.k (.bool false))⟩])
 (.seq (.seq (.reg [⟨none,.mov 30 (.t 0)⟩,
 ⟨none,.call (some 31) 144 [(.t 30)] false⟩])
 (.cond (.t 31)
 (.seq (.reg [⟨none,.mov 2 (.k (.bool true))⟩])
 (.ret))
 (.skip)))
 (.seq (.reg [⟨none,.mov 33 (.t 0)⟩,
 ⟨none,.call (some 34) 409 [(.t 33)] false⟩,
 ⟨none,.mov 32 (.t 34)⟩,
 ⟨none,.ext 35 (.t 32) 0⟩,
 ⟨none,.ext 36 (.t 32) 1⟩,
 ⟨none,.ext 37 (.t 32) 2⟩,
 ⟨none,.ext 38 (.t 32) 3⟩,
 ⟨none,.loc 3 [.int .u64 0,.int .i64 0,.int .i64 0,.int .i64 0,.int .i64 0]⟩,
 ⟨none,.loc 4 [.int .i64 0,.int .i64 0,.nil]⟩,
 ⟨none,.loc 5 [.int .i64 0,.int .i64 0,.nil]⟩,
 ⟨none,.store 3 5 (.t 35)⟩,
 ⟨none,.store 4 3 (.t 36)⟩,
 ⟨none,.store 5 3 (.t 37)⟩,
 ⟨none,.mov 6 (.t 38)⟩])
 (.seq (.reg [⟨none,.load 40 4 3 true⟩,
 ⟨none,.load 41 5 3 true⟩,
 ⟨none,.lit 42 18 2 [.int .i64 0,.int .i64 0,.nil] [(0,(.t 40)),(1,(.t 41))]⟩,
 ⟨none,.call (some 43) 172 [(.t 42)] false⟩,
 ⟨none,.mov 39 (.t 43)⟩,
 ⟨none,.ext 44 (.t 39) 0⟩,
 ⟨none,.ext 45 (.t 39) 1⟩,
 ⟨none,.mov 7 (.t 44)⟩,
 ⟨none,.mov 8 (.t 45)⟩])
 (.seq (.reg [⟨none,.fad 46 3 0⟩,
 ⟨none,.load 47 46 1 false⟩,
 ⟨none,.lit 48 13 9 [.int .u64 0] [(0,(.k (.int .u64 0))),(1,(.k (.int .u64 1))),(2,(.k (.int .u64 2))),(3,(.k (.int .u64 5))),(4,(.k (.int .u64 9))),(5,(.k (.int .u64 100))),(6,(.k (.int .u64 9223372036854775808))),(7,(.k (.int .u64 18446744073709551615))),(8,(.t 47))]⟩,
 ⟨none,.mov 9 (.t 48)⟩])
 (.seq (.seq (.reg [⟨none,.mov 10 (.k (.int .i64 0))⟩])
 (.block 0 (.loop [3,4,5,6,7,8,9,10]
 r412L1)))
 (.seq (.reg [⟨none,.load 124 3 5 true⟩,
 ⟨none,.load 125 4 3 true⟩,
 ⟨none,.call (some 126) 304 [(.t 124),(.t 125)] false⟩,
 ⟨none,.mov 123 (.t 126)⟩,
 ⟨none,.ext 127 (.t 123) 0⟩,
 ⟨none,.ext 128 (.t 123) 1⟩,
 ⟨none,.loc 17 [.int .i64 0,.int .u64 0,.int .i64 0,.int .i64 0,.int .u64 0,.int .u64 0,.int .i64 0,.int .i64 0,.nil,.nil]⟩,
 ⟨none,.store 17 10 (.t 127)⟩,
 ⟨none,.mov 18 (.t 128)⟩])
 (.seq (.reg [⟨none,.load 130 4 3 true⟩,
 ⟨none,.load 131 17 10 true⟩,
 ⟨none,.call (some 132) 315 [(.t 130),(.t 131)] false⟩,
 ⟨none,.mov 129 (.t 132)⟩,
 ⟨none,.ext 133 (.t 129) 0⟩,
 ⟨none,.ext 134 (.t 129) 1⟩,
 ⟨none,.loc 19 [.int .i64 0,.int .i64 0,.nil]⟩,
 ⟨none,.store 19 3 (.t 133)⟩,
 ⟨none,.mov 20 (.t 134)⟩])
 (.seq (.seq (.reg [⟨none,.load 136 19 3 true⟩,
 ⟨none,.load 137 17 10 true⟩,
 ⟨none,.call (some 138) 315 [(.t 136),(.t 137)] false⟩,
 ⟨none,.mov 135 (.t 138)⟩,
 ⟨none,.ext 139 (.t 135) 0⟩,
 ⟨none,.ext 140 (.t 135) 1⟩,
 ⟨none,.loc 21 [.int .i64 0,.int .i64 0,.nil]⟩,
 ⟨none,.store 21 3 (.t 139)⟩,
 ⟨none,.mov 22 (.t 140)⟩])
 (.seq (.reg [⟨none,.mov 141 (.t 18)⟩,
 ⟨none,.not 142 (.t 141)⟩,
 ⟨none,.mov 143 (.t 142)⟩,
 ⟨some (143,false),.mov 144 (.t 22)⟩,
 ⟨none,.pick 145 (.t 143) (.k (.bool true)) (.t 144)⟩,
 ⟨none,.mov 146 (.t 145)⟩,
 ⟨some (146,false),.mov 147 (.t 20)⟩,
 ⟨some (146,false),.load 148 19 3 true⟩,
 ⟨some (146,false),.load 149 17 10 true⟩,
 ⟨some (146,false),.call (some 150) 167 [(.t 148),(.t 149)] false⟩,
 ⟨some (146,false),.beq 151 true (.t 147) (.t 150)⟩,
 ⟨none,.pick 152 (.t 146) (.k (.bool true)) (.t 151)⟩,
 ⟨none,.mov 153 (.t 152)⟩,
 ⟨some (153,false),.load 154 4 3 true⟩,
 ⟨some (153,false),.load 155 17 10 true⟩,
 ⟨some (153,false),.call (some 156) 167 [(.t 154),(.t 155)] false⟩,
 ⟨none,.pick 157 (.t 153) (.k (.bool true)) (.t 156)⟩])
 (.cond (.t 157)
 (.seq (.reg [⟨none,.mov 2 (.k (.bool false))⟩])
 (.ret))
 (.skip))))
 (.seq (.reg [⟨none,.load 159 3 5 true⟩,
 ⟨none,.load 160 4 3 true⟩,
 ⟨none,.load 161 5 3 true⟩,
 ⟨none,.mov 162 (.t 6)⟩,
 ⟨none,.call (some 163) 368 [(.t 159),(.t 160),(.t 161),(.t 162)] false⟩,
 ⟨none,.mov 158 (.t 163)⟩,
 ⟨none,.ext 164 (.t 158) 0⟩,
 ⟨none,.ext 165 (.t 158) 1⟩,
 ⟨none,.ext 166 (.t 158) 2⟩,
 ⟨none,.loc 23 [.int .u64 0,.int .i64 0,.int .i64 0,.int .i64 0,.int .i64 0]⟩,
 ⟨none,.loc 24 [.int .i64 0,.int .i64 0,.nil]⟩,
 ⟨none,.loc 25 [.int .i64 0,.int .i64 0,.nil]⟩,
 ⟨none,.store 23 5 (.t 164)⟩,
 ⟨none,.store 24 3 (.t 165)⟩,
 ⟨none,.store 25 3 (.t 166)⟩])
 (.seq (.seq (.reg [⟨none,.fad 167 23 4⟩,
 ⟨none,.load 168 167 1 false⟩,
 ⟨none,.bin 169 .eql (.t 168) (.k (.int .i64 3))⟩])
 (.cond (.t 169)
 (.seq (.reg [⟨none,.load 170 24 3 true⟩,
 ⟨none,.load 171 25 3 true⟩,
 ⟨none,.lit 172 18 2 [.int .i64 0,.int .i64 0,.nil] [(0,(.t 170)),(1,(.t 171))]⟩,
 ⟨none,.fad 173 3 0⟩,
 ⟨none,.load 174 173 1 false⟩,
 ⟨none,.call (some 175) 284 [(.t 172),(.t 174)] false⟩,
 ⟨none,.mov 26 (.t 175)⟩])
 (.seq (.reg [⟨none,.mov 176 (.t 26)⟩,
 ⟨none,.len 177 (.t 176)⟩,
 ⟨none,.bin 178 .neq (.t 177) (.k (.int .i64 1))⟩,
 ⟨none,.mov 179 (.t 178)⟩,
 ⟨some (179,false),.mov 180 (.t 26)⟩,
 ⟨some (179,false),.idx 181 15 (.t 180) (.k (.int .i64 0))⟩,
 ⟨some (179,false),.load 182 181 1 false⟩,
 ⟨some (179,false),.bin 183 .neq (.t 182) (.k (.int .i64 1))⟩,
 ⟨none,.pick 184 (.t 179) (.k (.bool true)) (.t 183)⟩])
 (.cond (.t 184)
 (.seq (.reg [⟨none,.mov 2 (.k (.bool false))⟩])
 (.ret))
 (.skip))))
 (.skip)))
 (.seq (.reg [⟨none,.load 186 3 5 true⟩,
 ⟨none,.load 187 4 3 true⟩,
 ⟨none,.load 188 5 3 true⟩,
 ⟨none,.mov 189 (.t 6)⟩,
 ⟨none,.call (some 190) 367 [(.t 186),(.t 187),(.t 188),(.t 189)] false⟩,
 ⟨none,.mov 185 (.t 190)⟩,
 ⟨none,.ext 191 (.t 185) 0⟩,
 ⟨none,.ext 192 (.t 185) 1⟩,
 ⟨none,.ext 193 (.t 185) 2⟩,
 ⟨none,.loc 27 [.int .u64 0,.int .i64 0,.int .i64 0,.int .i64 0,.int .i64 0]⟩,
 ⟨none,.loc 28 [.int .i64 0,.int .i64 0,.nil]⟩,
 ⟨none,.loc 29 [.int .i64 0,.int .i64 0,.nil]⟩,
 ⟨none,.store 27 5 (.t 191)⟩,
 ⟨none,.store 28 3 (.t 192)⟩,
 ⟨none,.store 29 3 (.t 193)⟩])
 (.seq (.reg [⟨none,.load 194 23 5 true⟩,
 ⟨none,.load 195 27 5 true⟩,
 ⟨none,.eqs 196 false [.i .u64,.i .i64,.i .i64,.i .i64,.i .i64] (.t 194) (.t 195)⟩,
 ⟨none,.mov 197 (.t 196)⟩,
 ⟨some (197,true),.load 198 24 3 true⟩,
 ⟨some (197,true),.load 199 28 3 true⟩,
 ⟨some (197,true),.call (some 200) 385 [(.t 198),(.t 199)] false⟩,
 ⟨none,.pick 201 (.t 197) (.t 200) (.k (.bool false))⟩,
 ⟨none,.mov 202 (.t 201)⟩,
 ⟨some (202,true),.load 203 25 3 true⟩,
 ⟨some (202,true),.load 204 29 3 true⟩,
 ⟨some (202,true),.call (some 205) 385 [(.t 203),(.t 204)] false⟩,
 ⟨none,.pick 206 (.t 202) (.t 205) (.k (.bool false))⟩,
 ⟨none,.mov 2 (.t 206)⟩])
 (.ret)))))))))))))⟩
def tWFnHand:List (Nat×RF):=[(412,r412)]
abbrev Has (F:Nat→Option RF) (t:List (Nat×RF)):Prop:=AllT (fun x=>F x.1=some x.2) t
def inR (x lo hi:Int):Bool:=decide (lo≤x)&&decide (x≤hi)
section
variable {F:Nat→Option RF} {Z:Waf}
theorem isGroupId_run (hI11:Has F tI11) (n:Int) (h:Heap):
 call F Z 7 [.c (.int .i64 n)] h=some (.c (.bool (inR n 0 99)),h):=by
 rw[Wac F Z (hI11.lk (g:=7) rfl) _ _ rfl]
 simp only[rn,RO.dst,lk,drop,Nat.reduceBEq,Nat.reduceAdd,Nat.reduceLeDiff,↓reduceIte,reduceCtorEq]
 (repeat' ((first | (rw[WbI];split) | (rw[Was];split) | (rw[Way];split))<;>(rename_i hh;(try simp only[QO,decide_eq_true_eq] at hh);simp only[hh,rn,RO.dst,lk,drop,Nat.reduceBEq,Nat.reduceAdd,Nat.reduceLeDiff,↓reduceIte,reduceCtorEq])))<;>simp[inR, *]
theorem Wbd (hS:Has F tS01d) (n lo hi:Int) (h:Heap):
 call F Z 5 [.c (.int .i64 n),.c (.int .i64 lo),.c (.int .i64 hi)] h=some (.c (.bool (inR n lo hi)),h):=by
 rw[Wac F Z (hS.lk (g:=5) rfl) _ _ rfl]
 simp only[rn,RO.dst,lk,drop,Nat.reduceBEq,Nat.reduceAdd,Nat.reduceLeDiff,↓reduceIte,reduceCtorEq]
 (repeat' ((first | (rw[WbI];split) | (rw[Was];split) | (rw[Way];split))<;>(rename_i hh;(try simp only[QO,decide_eq_true_eq] at hh);simp only[hh,rn,RO.dst,lk,drop,Nat.reduceBEq,Nat.reduceAdd,Nat.reduceLeDiff,↓reduceIte,reduceCtorEq])))<;>simp[inR, *]
end
theorem Wbr (z:Int) (h1: -9223372036854775808≤z) (h2:z≤9223372036854775807):IntKind.i64.wrap z=z:=by
 show (if (true&&decide (z%18446744073709551616≥9223372036854775808))=true then z%18446744073709551616-18446744073709551616 else z%18446744073709551616)=z
 simp only[Bool.true_and,decide_eq_true_eq]
 split<;>omega
theorem wrapU (z:Int) (h1:0≤z) (h2:z≤18446744073709551615):IntKind.u64.wrap z=z:=by
 show (if (false&&decide (z%18446744073709551616≥9223372036854775808))=true then z%18446744073709551616-18446744073709551616 else z%18446744073709551616)=z
 rw[if_neg (by simp)]
 omega
theorem WaS (i:Nat) (h:i<9223372036854775807):IntKind.i64.wrap ((i:Int)+1)=((i+1:Nat):Int):=by rw[Wbr _ (by omega) (by omega)];rfl
abbrev Rel (α:Type):=Heap→List Cell→α→List Nat→Prop
structure RelOk {α:Type} (R:Rel α):Prop where
 lt: ∀{h cs a fp},R h cs a fp→ ∀id,id∈fp→id<h.next
 mv: ∀{h h' cs a fp},R h cs a fp→h.next≤h'.next→(∀id,id∈fp→h'.get id=h.get id)→R h' cs a fp
def Fl {α:Type} (enc:α→List Cell):Rel α:=fun _ cs a fp=>cs=enc a∧fp=[]
theorem Fl.ok {α:Type} (enc:α→List Cell):RelOk (Fl enc) where
 lt:=by rintro h cs a fp ⟨rfl,rfl⟩ id hid;cases hid
 mv:=fun e _ _=>e
def AllR {α:Type} (R:Rel α) (h:Heap):List (List Cell)→List α→List (List Nat)→Prop
 | [],[],[]=>True
 | r::rs,a::bs,f::fs=>R h r a f∧AllR R h rs bs fs
 | _,_,_=>False
def Cell.sid:Cell→Nat
 | .sl _ id _ _=>id
 | _=>0
def SlR {α:Type} (tag:Nat) (R:Rel α) (h:Heap) (x:Cell) (xs:List α) (fp:List Nat):Prop:=
 xs.length≤maxLen∧((x= .nil∧xs=[]∧fp=[])∨ ∃id rows fps,x= .sl tag id 0 xs.length∧h.get id=some rows∧id<h.next∧fp=id::fps.flatten∧AllR R h rows xs fps)
section
variable {α:Type} {R:Rel α} {h h':Heap}
theorem AllR.len: ∀{rows:List (List Cell)} {xs:List α} {fps:List (List Nat)},AllR R h rows xs fps→rows.length=xs.length
 | [],[],[],_=>rfl
 | _::_,_::_,_::_,⟨_,w⟩=>by simp only[List.length_cons,AllR.len w]
 | [],[],_::_,w=>w.elim
 | [],_::_,_,w=>w.elim
 | _::_,[],_,w=>w.elim
 | _::_,_::_,[],w=>w.elim
theorem AllR.at: ∀{rows:List (List Cell)} {xs:List α} {fps:List (List Nat)},AllR R h rows xs fps→ ∀(i:Nat) (hi:i<xs.length),∃r f,rows[i]? =some r∧fps[i]? =some f∧R h r xs[i] f
 | [],[],[],_=>fun i hi=>absurd hi (Qg _)
 | r::_,_::_,f::_,⟨w1,w⟩=>fun i hi=>by
   cases i with
   | zero=>exact ⟨r,f,rfl,rfl,w1⟩
   | succ i=>exact AllR.at w i (by simpa using hi)
 | [],[],_::_,w=>w.elim
 | [],_::_,_,w=>w.elim
 | _::_,[],_,w=>w.elim
 | _::_,_::_,[],w=>w.elim
theorem AllR.mv (ok:RelOk R): ∀{rows:List (List Cell)} {xs:List α} {fps:List (List Nat)},AllR R h rows xs fps→h.next≤h'.next→(∀id,id∈fps.flatten→h'.get id=h.get id)→AllR R h' rows xs fps
 | [],[],[],_=>fun _ _=>trivial
 | _::_,_::_,_::_,⟨w1,w⟩=>fun hn hg=>⟨ok.mv w1 hn fun id hid=>hg id (by simp[hid]),w.mv ok hn fun id hid=>hg id (by rw[Qa];exact List.mem_append_right _ hid)⟩
 | [],[],_::_,w=>w.elim
 | [],_::_,_,w=>w.elim
 | _::_,[],_,w=>w.elim
 | _::_,_::_,[],w=>w.elim
theorem AllR.lt (ok:RelOk R): ∀{rows:List (List Cell)} {xs:List α} {fps:List (List Nat)},AllR R h rows xs fps→ ∀id,id∈fps.flatten→id<h.next
 | [],[],[],_=>fun id hid=>by simp at hid
 | _::_,_::_,_::_,⟨w1,w⟩=>fun id hid=>by
   rw[Qa] at hid
   rcases Qb.1 hid with hid | hid
   ·exact ok.lt w1 id hid
   ·exact w.lt ok id hid
 | [],[],_::_,w=>w.elim
 | [],_::_,_,w=>w.elim
 | _::_,[],_,w=>w.elim
 | _::_,_::_,[],w=>w.elim
theorem AllR.flat {enc:α→List Cell}: ∀{rows:List (List Cell)} {xs:List α} {fps:List (List Nat)},AllR (Fl enc) h rows xs fps→rows=xs.map enc∧fps.flatten=[]
 | [],[],[],_=>⟨rfl,rfl⟩
 | _::_,_::_,_::_,⟨⟨rfl,rfl⟩,w⟩=>⟨by rw[w.flat.1];rfl,by rw[Qa,w.flat.2];rfl⟩
 | [],[],_::_,w=>w.elim
 | [],_::_,_,w=>w.elim
 | _::_,[],_,w=>w.elim
 | _::_,_::_,[],w=>w.elim
theorem AllR.ofFlat {enc:α→List Cell}: ∀(xs:List α),AllR (Fl enc) h (xs.map enc) xs (xs.map fun _=>[])
 | []=>trivial
 | _::r=>⟨⟨rfl,rfl⟩,AllR.ofFlat r⟩
variable {tag:Nat} {x:Cell} {xs:List α} {fp:List Nat}
theorem SlR.le (w:SlR tag R h x xs fp):xs.length≤maxLen:=w.1
theorem SlR.le2 (w:SlR tag R h x xs fp):xs.length≤9223372036854775807:=by have:=w.1;unfold maxLen at this;omega
theorem SlR.lt (ok:RelOk R) (w:SlR tag R h x xs fp): ∀id,id∈fp→id<h.next:=by
 rcases w with ⟨_,⟨_,_,rfl⟩ | ⟨id,rows,fps,_,_,h1,rfl,h2⟩⟩
 ·intro id hid;cases hid
 ·intro i hi
  rcases Ql.1 hi with rfl | hi
  ·exact h1
  ·exact h2.lt ok i hi
theorem SlR.mv (ok:RelOk R) (w:SlR tag R h x xs fp) (hn:h.next≤h'.next) (hg: ∀id,id∈fp→h'.get id=h.get id):SlR tag R h' x xs fp:=by
 rcases w with ⟨hl,⟨h1,h2,rfl⟩ | ⟨id,rows,fps,h1,h2,h3,rfl,h4⟩⟩
 ·exact ⟨hl,.inl ⟨h1,h2,rfl⟩⟩
 ·exact ⟨hl,.inr ⟨id,rows,fps,h1,(hg id (by simp)).trans h2,Qn h3 hn,rfl,h4.mv ok hn fun i hi=>hg i (by simp[hi])⟩⟩
theorem SlR.mono (ok:RelOk R) (w:SlR tag R h x xs fp) (hx:HExt h h'):SlR tag R h' x xs fp:=w.mv ok hx.1 fun id hid=>hx.2 id (w.lt ok id hid)
theorem RelOk.mono (ok:RelOk R) {cs:List Cell} {a:α} (w:R h cs a fp) (hx:HExt h h'):R h' cs a fp:=ok.mv w hx.1 fun id hid=>hx.2 id (ok.lt w id hid)
theorem SlR.len (w:SlR tag R h x xs fp):lenR (some x)=some (.int .i64 (xs.length:Nat)):=by
 rcases w with ⟨_,⟨rfl,rfl,_⟩ | ⟨id,rows,fps,rfl,_⟩⟩<;>rfl
theorem SlR.idx (w:SlR tag R h x xs fp) {i:Nat} (hi:i<xs.length):idxR tag (some x) (some (i:Int))=some (.ptr x.sid i 0):=by
 rcases w with ⟨_,⟨rfl,rfl,_⟩ | ⟨id,rows,fps,rfl,_⟩⟩
 ·exact absurd hi (Qg _)
 ·rw[idxR_s,if_pos (by omega)];simp[Cell.sid]
theorem SlR.row (w:SlR tag R h x xs fp) {i:Nat} (hi:i<xs.length): ∃r f,WbL h x.sid i=some r∧R h r xs[i] f∧ ∀id,id∈f→id∈fp:=by
 rcases w with ⟨_,⟨rfl,rfl,_⟩ | ⟨id,rows,fps,rfl,h1,_,rfl,h2⟩⟩
 ·exact absurd hi (Qg _)
 ·obtain ⟨r,f,q1,q2,q3⟩:=h2.at i hi
  refine ⟨r,f,by simp[WbL,Cell.sid,h1,q1],q3,fun id hid=>Qh _ (Qq.2 ⟨f,Qk q2,hid⟩)⟩
theorem SlR.flat {enc:α→List Cell} (w:SlR tag (Fl enc) h x xs fp):(x= .nil∧xs=[]∧fp=[])∨x= .sl tag x.sid 0 xs.length∧h.get x.sid=some (xs.map enc)∧x.sid<h.next∧fp=[x.sid]:=by
 rcases w with ⟨_,h0 | ⟨id,rows,fps,rfl,h1,h2,rfl,h3⟩⟩
 ·exact .inl h0
 ·obtain ⟨rfl,h4⟩:=h3.flat
  exact .inr ⟨rfl,h1,h2,by rw[h4];rfl⟩
theorem SlR.ofFlat {enc:α→List Cell} (hl:xs.length≤maxLen) {id:Nat} (h1:h.get id=some (xs.map enc)) (h2:id<h.next):SlR tag (Fl enc) h (.sl tag id 0 xs.length) xs [id]:=
 ⟨hl,.inr ⟨id,_,_,rfl,h1,h2,by simp,AllR.ofFlat xs⟩⟩
theorem SlR.nil (tag:Nat) (R:Rel α) (h:Heap):SlR tag R h .nil [] []:=⟨QX _,.inl ⟨rfl,rfl,rfl⟩⟩
theorem SlR.load {enc:α→List Cell} (w:SlR tag (Fl enc) h x xs fp) {i:Nat} (hi:i<xs.length) (j n:Nat):WaC h x.sid i j n=cut? (enc xs[i]) j n:=by
 obtain ⟨r,f,h1,⟨rfl,_⟩,_⟩:=w.row hi
 simp[WaC,h1]
theorem SlR.loadD {enc:α→List Cell} (w:SlR tag (Fl enc) h x xs fp) (d:α) {i:Nat} (hi:i<xs.length) (j n:Nat):WaC h x.sid i j n=cut? (enc (xs[i]?.getD d)) j n:=by
 rw[w.load hi,Qd hi];rfl
theorem SlR.rows {enc:α→List Cell} (w:SlR tag (Fl enc) h x xs fp):rowsOf h x=some (xs.map enc):=by
 rcases w.flat with ⟨rfl,rfl,_⟩ | ⟨h1,h2,_⟩
 ·rfl
 ·rw[h1];simp only[rowsOf];rw[h2];simp[QC]
theorem SlR.isTag (w:SlR tag R h x xs fp):A.isTag tag x=true:=by
 rcases w with ⟨_,⟨rfl,rfl,_⟩ | ⟨id,rows,fps,rfl,_⟩⟩<;>simp[A.isTag]
theorem AllR.ofWf {A:α→Prop} {W:List Cell→Prop} (hr: ∀r,W r→ ∃a f,R h r a f∧A a): ∀(rows:List (List Cell)),(∀r,r∈rows→W r)→ ∃xs fps,AllR R h rows xs fps∧ ∀a,a∈xs→A a
 | [],_=>⟨[],[],trivial,fun _ h=>nomatch h⟩
 | r::rs,w=>by
   obtain ⟨a,f,h1,h2⟩:=hr r (w r (by simp))
   obtain ⟨bs,fs,h3,h4⟩:=AllR.ofWf hr rs fun r hr=>w r (by simp[hr])
   exact ⟨a::bs,f::fs,⟨h1,h3⟩,fun b hb=>by (rcases Ql.1 hb with rfl | hb);exact h2;exact h4 b hb⟩
theorem SlR.ofWf {A:α→Prop} {n sz:Nat} {e:Sh} (hr: ∀r,r.length=sz∧Wf h n e r→ ∃a f,R h r a f∧A a) (w:Wf h (n+1) (.slice tag sz e) [x]): ∃xs fp,SlR tag R h x xs fp∧ ∀a,a∈xs→A a:=by
 rcases w with w | ⟨id,rows,h1,h2,h3,h4,h5⟩
 ·cases w;exact ⟨[],[],SlR.nil _ _ _,fun _ h=>nomatch h⟩
 ·cases h1
  obtain ⟨xs,fps,q1,q2⟩:=AllR.ofWf hr rows h5
  exact ⟨xs,_,⟨q1.len▸h4,.inr ⟨id,rows,fps,by rw[q1.len],h3,h2,rfl,q1⟩⟩,q2⟩
end
theorem push_put (h:Heap) (a b:List (List Cell)):(h.push a).put h.next b=h.push b:=by
 simp only[Heap.push,Heap.put]
 congr 1;funext i;split<;>rfl
theorem Wbm (h:Heap) (a:List (List Cell)):(h.push a).get h.next=some a:=by simp[Heap.push]
theorem Wbu (h:Heap) (a:List (List Cell)):(h.push a).next=h.next+1:=rfl
theorem push_floor (h:Heap) (a:List (List Cell)):(h.push a).floor=h.floor:=rfl
theorem put_put (h:Heap) (id:Nat) (a b:List (List Cell)):(h.put id a).put id b=h.put id b:=by
 simp only[Heap.put]
 congr 1;funext i;split<;>rfl
theorem storeP_push {h:Heap} {rows:List (List Cell)} (hf:h.floor≤h.next) {i:Nat} {old new:List Cell} (h1:rows[i]? =some old) (h2:new.length=old.length):storeP (h.push rows) h.next i 0 new=some (h.push (rows.set i new)):=by
 simp only[storeP,push_floor,Wbm]
 rw[if_pos hf]
 simp only[Qf,h1,splice?,List.take_zero,QQ,Qr]
 rw[if_pos (by omega),h2,List.drop_length]
 simp only[Qp,Qf,push_put]
theorem storeP_at {h:Heap} {id:Nat} {rows:List (List Cell)} (hf:h.floor≤id) (hr:h.get id=some rows) {i j:Nat} {old new r:List Cell} (h1:rows[i]? =some old) (h2:splice? old j new=some r):storeP h id i j new=some (h.put id (rows.set i r)):=by
 simp only[storeP]
 rw[if_pos hf,hr]
 simp only[Qf,h1,h2]
theorem HExt.fl {h h':Heap} (hx:HExt h h') (hf:h'.floor=h.floor) (h0:h.floor≤h.next):h'.floor≤h'.next:=by rw[hf];exact Qx h0 hx.1
structure On (h h':Heap):Prop where
 ext:HExt h h'
 fl:h'.floor=h.floor
theorem On.refl (h:Heap):On h h:=⟨HExt.refl h,rfl⟩
theorem On.trans {a b c:Heap} (p:On a b) (q:On b c):On a c:=⟨p.ext.trans q.ext,q.fl.trans p.fl⟩
theorem On.push (h:Heap) (rows:List (List Cell)):On h (h.push rows):=⟨HExt.push h rows,rfl⟩
theorem On.le {h h':Heap} (o:On h h') (hf:h.floor≤h.next):h'.floor≤h'.next:=o.ext.fl o.fl hf
structure Fre (h:Heap) (fp:List Nat):Prop where
 lo: ∀id,id∈fp→h.next≤id
 nd:fp.Nodup
theorem Fre.one (h:Heap):Fre h [h.next]:=⟨fun id hid=>by simp at hid;omega,by simp⟩
theorem Fre.nil (h:Heap):Fre h []:=⟨fun id hid=>(nomatch hid),QV⟩
theorem RelOk.on {α:Type} {R:Rel α} (ok:RelOk R) {h h':Heap} {cs:List Cell} {a:α} {fp:List Nat} (w:R h cs a fp) (o:On h h'):R h' cs a fp:=ok.mono w o.ext
theorem SlR.on {α:Type} {R:Rel α} {tag:Nat} {h h':Heap} {x:Cell} {xs:List α} {fp:List Nat} (w:SlR tag R h x xs fp) (ok:RelOk R) (o:On h h'):SlR tag R h' x xs fp:=w.mono ok o.ext
def putM (h:Heap) (id:Nat) (rows:List (List Cell)) (i:Nat):Option (List Cell)→Option Heap
 | some r=>some (h.put id (rows.set i r))
 | none=>none
theorem putM_s (h:Heap) (id:Nat) (rows:List (List Cell)) (i:Nat) (r:List Cell):putM h id rows i (some r)=some (h.put id (rows.set i r)):=rfl
theorem storeP_put {h:Heap} {id:Nat} (hf:h.floor≤id) {rows:List (List Cell)} {i:Nat} (hi:i<rows.length) (old new:List Cell) (j:Nat):storeP (h.put id (rows.set i old)) id i j new=putM h id rows i (splice? old j new):=by
 have hf':(h.put id (rows.set i old)).floor≤id:=hf
 have hg:(h.put id (rows.set i old)).get id=some (rows.set i old):=by simp[Heap.put]
 simp only[storeP]
 rw[if_pos hf',hg]
 simp only[Qf,Qo hi]
 cases splice? old j new with
 | none=>rfl
 | some r=>simp only[Qf,List.set_set,put_put,putM]
theorem put_same {h:Heap} {id:Nat} {rows:List (List Cell)} (hr:h.get id=some rows):h.put id rows=h:=by
 obtain ⟨a,b,g⟩:=h
 simp only[Heap.put]
 congr 1;funext i;split
 ·rename_i he;subst he;exact hr.symm
 ·rfl
structure Mk (h h':Heap) (fp:List Nat):Prop where
 next:h'.next=h.next
 fl:h'.floor=h.floor
 get: ∀id,id∉fp→h'.get id=h.get id
theorem Mk.refl (h:Heap) (fp:List Nat):Mk h h fp:=⟨rfl,rfl,fun _ _=>rfl⟩
theorem Mk.put (h:Heap) (id:Nat) (rows:List (List Cell)):Mk h (h.put id rows) [id]:=⟨rfl,rfl,fun k hk=>by simp only[Heap.put];rw[if_neg (by simpa using hk)]⟩
theorem Mk.trans {a b c:Heap} {p q:List Nat} (m:Mk a b p) (n:Mk b c q):Mk a c (p++q):=⟨n.next.trans m.next,n.fl.trans m.fl,fun id hid=>by
 rw[Qb,not_or] at hid
 rw[n.get id hid.2,m.get id hid.1]⟩
theorem SlR.mk {α:Type} {R:Rel α} {tag:Nat} {h h':Heap} {x:Cell} {xs:List α} {fp fq:List Nat} (w:SlR tag R h x xs fp) (ok:RelOk R) (m:Mk h h' fq) (hd: ∀id,id∈fp→id∉fq):SlR tag R h' x xs fp:=w.mv ok (by rw[m.next];exact Qe _) fun id hid=>m.get id (hd id hid)
theorem b_rem (k:IntKind) (a b:Int) (h:b≠0):binF .rem (.int k a) (.int k b)=some (.int k (a.tmod b)):=by simp[binF,h]
theorem b_quo (k:IntKind) (a b:Int) (h:b≠0):binF .quo (.int k a) (.int k b)=some (.int k (k.wrap (a.tdiv b))):=by simp[binF,h]
def Turn (r next:Option (Ex×St)) (p:Bool) (Q:St→Prop):Prop:=(p=true∧r=next)∨(p=false∧ ∃s,r=some (.ret,s)∧Q s)
section
variable {F:Nat→Option RF} {Z:Waf} {live:List Nat} {b:RC}
theorem loop_allN (n:Nat) (st:Nat→St) (P:Nat→Bool) (Q:St→Prop) (hs: ∀i,i<n→Turn (loop F Z live b (st i)) (loop F Z live b (st (i+1))) (P i) Q):
 Turn (loop F Z live b (st 0)) (loop F Z live b (st n)) ((List.range n).all P) Q:=by
 induction n with
 | zero=>exact .inl ⟨rfl,rfl⟩
 | succ n ih=>
   have hl:(List.range (n+1)).all P=((List.range n).all P&&P n):=by rw[QR,QS];simp
   rcases ih fun i hi=>hs i (by omega) with ⟨h1,h2⟩ | ⟨h1,h2⟩
   ·rcases hs n (by omega) with ⟨h3,h4⟩ | ⟨h3,s,h4,h5⟩
    ·exact .inl ⟨by rw[hl,h1,h3];rfl,h2.trans h4⟩
    ·exact .inr ⟨by rw[hl,h1,h3];rfl,s,h2.trans h4,h5⟩
   ·exact .inr ⟨by rw[hl,h1];rfl,h2⟩
theorem loop_all {α:Type} (xs:List α) (st:Nat→St) (P:α→Bool) (Q:St→Prop) (hs: ∀i (hi:i<xs.length),Turn (loop F Z live b (st i)) (loop F Z live b (st (i+1))) (P xs[i]) Q):
 Turn (loop F Z live b (st 0)) (loop F Z live b (st xs.length)) (xs.all P) Q:=by
 have he:xs.all P=(List.range xs.length).all (fun i=>(xs[i]?).all P):=by
  rw[QT,Qz,Qz]
  constructor
  ·intro h i hi
   have hi':i<xs.length:=by simpa using hi
   rw[Qd hi']
   exact h _ (QP hi')
  ·intro h a ha
   obtain ⟨i,hi,rfl⟩:=Qv.1 ha
   have:=h i (by simpa using hi)
   rwa [Qd hi] at this
 rw[he]
 exact loop_allN _ _ _ _ fun i hi=>by rw[Qd hi];exact hs i hi
theorem all_same {α:Type} [DecidableEq α] {xs ys:List α} (he:xs.length=ys.length):(List.range xs.length).all (fun i=>decide (xs[i]? =ys[i]?))=decide (xs=ys):=by
 rw[QT,Qz,decide_eq_true_eq]
 constructor
 ·intro hall
  apply QN
  intro i
  by_cases hi:i<xs.length
  ·simpa using hall i (by simpa using hi)
  ·rw[Qu (by omega),Qu (by omega)]
 ·rintro rfl i _;simp
theorem WaB (n:Nat) (I:Nat→St→Prop) (hs: ∀i s,i<n→I i s→ ∃s',I (i+1) s'∧loop F Z live b s=loop F Z live b s') {s:St} (h0:I 0 s): ∃s',I n s'∧loop F Z live b s=loop F Z live b s':=by
 induction n with
 | zero=>exact ⟨s,h0,rfl⟩
 | succ n ih=>
   obtain ⟨s1,h1,h2⟩:=ih fun i s hi=>hs i s (by omega)
   obtain ⟨s2,h3,h4⟩:=hs n s1 (by omega) h1
   exact ⟨s2,h3,h2.trans h4⟩
theorem loop_goesF (n:Nat) (st:Nat→St) (hs: ∀i,i<n→loop F Z live b (st i)=loop F Z live b (st (i+1))):loop F Z live b (st 0)=loop F Z live b (st n):=by
 induction n with
 | zero=>rfl
 | succ n ih=>exact (ih fun i hi=>hs i (by omega)).trans (hs n (by omega))
end
theorem On.quiet {h h':Heap} (o:On {h with floor:=h.next} h'):On h {h' with floor:=h.floor}:=⟨⟨o.ext.1,o.ext.2⟩,rfl⟩
theorem On.up (h:Heap):On h {h with floor:=h.floor}:=⟨⟨Qe _,fun _ _=>rfl⟩,rfl⟩
theorem SlR.up {α:Type} {R:Rel α} {tag:Nat} {h:Heap} {x:Cell} {xs:List α} {fp:List Nat} (w:SlR tag R h x xs fp) (ok:RelOk R) (n:Nat):SlR tag R {h with floor:=n} x xs fp:=w.mv ok (Qe _) fun _ _=>rfl
theorem quietly {F:Nat→Option RF} {Z:Waf} {h h':Heap} {f:Nat} {vs:List V} {r:V} (e:call F Z f vs ⟨h.next,h.next,h.get⟩=some (r,h')) (o:On ⟨h.next,h.next,h.get⟩ h'):
 ∃h' g,call F Z f vs ⟨h.next,h.next,h.get⟩=some (r,h')∧Heap.mk h'.next h.floor h'.get=g∧On h g:=⟨h',_,e,rfl,⟨⟨o.ext.1,o.ext.2⟩,rfl⟩⟩
theorem RelOk.up {α:Type} {R:Rel α} (ok:RelOk R) {h:Heap} {cs:List Cell} {a:α} {fp:List Nat} (w:R h cs a fp) (n:Nat):R ⟨h.next,n,h.get⟩ cs a fp:=ok.mv w (Qe _) fun _ _=>rfl
def Cell.off:Cell→Nat
 | .sl _ _ off _=>off
 | _=>0
def Vw {α:Type} (tag:Nat) (enc:α→List Cell) (h:Heap) (x:Cell) (xs:List α):Prop:=
 xs.length≤maxLen∧((x= .nil∧xs=[])∨ ∃id off rows,x= .sl tag id off xs.length∧h.get id=some rows∧id<h.next∧ ∀i (hi:i<xs.length),rows[off+i]? =some (enc xs[i]))
section
variable {α:Type} {enc:α→List Cell} {h h':Heap} {tag:Nat} {x:Cell} {xs:List α} {fp:List Nat}
theorem Vw.le (w:Vw tag enc h x xs):xs.length≤maxLen:=w.1
theorem Vw.le2 (w:Vw tag enc h x xs):xs.length≤9223372036854775807:=by have:=w.1;unfold maxLen at this;omega
theorem Vw.len (w:Vw tag enc h x xs):lenR (some x)=some (.int .i64 (xs.length:Nat)):=by
 rcases w with ⟨_,⟨rfl,rfl⟩ | ⟨id,off,rows,rfl,_⟩⟩<;>rfl
theorem Vw.on (w:Vw tag enc h x xs) (o:On h h'):Vw tag enc h' x xs:=by
 rcases w with ⟨hl,h0 | ⟨id,off,rows,h1,h2,h3,h4⟩⟩
 ·exact ⟨hl,.inl h0⟩
 ·exact ⟨hl,.inr ⟨id,off,rows,h1,(o.ext.2 id h3).trans h2,Qn h3 o.ext.1,h4⟩⟩
theorem Vw.up (w:Vw tag enc h x xs) (n:Nat):Vw tag enc ⟨h.next,n,h.get⟩ x xs:=by
 rcases w with ⟨hl,h0 | ⟨id,off,rows,h1,h2,h3,h4⟩⟩
 ·exact ⟨hl,.inl h0⟩
 ·exact ⟨hl,.inr ⟨id,off,rows,h1,h2,h3,h4⟩⟩
theorem Vw.idx (w:Vw tag enc h x xs) {i:Nat} (hi:i<xs.length):idxR tag (some x) (some (i:Int))=some (.ptr x.sid (x.off+i) 0):=by
 rcases w with ⟨_,⟨rfl,rfl⟩ | ⟨id,off,rows,rfl,_⟩⟩
 ·exact absurd hi (Qg _)
 ·rw[idxR_s,if_pos (by omega)];simp[Cell.sid,Cell.off]
theorem Vw.load (w:Vw tag enc h x xs) {i:Nat} (hi:i<xs.length) (j n:Nat):WaC h x.sid (x.off+i) j n=cut? (enc xs[i]) j n:=by
 rcases w with ⟨_,⟨rfl,rfl⟩ | ⟨id,off,rows,rfl,h2,h3,h4⟩⟩
 ·exact absurd hi (Qg _)
 ·simp[WaC,WbL,Cell.sid,Cell.off,h2,h4 i hi]
theorem SlR.vw (w:SlR tag (Fl enc) h x xs fp):Vw tag enc h x xs:=by
 refine ⟨w.le,?_⟩
 rcases w.flat with ⟨h1,h2,_⟩ | ⟨h1,h2,h3,_⟩
 ·exact .inl ⟨h1,h2⟩
 ·refine .inr ⟨x.sid,0,_,h1,h2,h3,fun i hi=> ?_⟩
  rw[Qr,List.getElem?_map,Qd hi];rfl
theorem Vw.cut (w:Vw tag enc h x xs) {a b:Nat} (hab:a≤b) (hb:b≤xs.length) {lo hi:Option Int} (hlo:lo.getD 0=a) (hhi:hi.getD xs.length=b):
 ∃y,cutR tag (some x) (some lo) (some hi)=some y∧Vw tag enc h y ((xs.take b).drop a):=by
 have hle:=w.le
 rcases w with ⟨_,⟨rfl,rfl⟩ | ⟨id,off,rows,rfl,h2,h3,h4⟩⟩
 ·simp only[QD,Nat.le_zero] at hb
  subst hb
  obtain rfl:a=0:=by omega
  refine ⟨.nil,?_,⟨by simp,.inl ⟨rfl,by simp⟩⟩⟩
  rw[cutR_n,if_pos ⟨by simpa using hlo,by simpa using hhi⟩]
 ·have hl:((xs.take b).drop a).length=b-a:=by simp;omega
  refine ⟨.sl tag id (off+a) (b-a),?_,⟨by rw[hl];omega,.inr ⟨id,off+a,rows,by rw[hl],h2,h3,fun i hi=> ?_⟩⟩⟩
  ·rw[cutR_s,hlo,hhi,if_pos (by omega)];simp
  ·rw[hl] at hi
   have:=h4 (a+i) (by omega)
   rw[Nat.add_assoc,this]
   simp
theorem Vw.pre (w:Vw tag enc h x xs) {b:Nat} (hb:b≤xs.length): ∃y,cutR tag (some x) (some none) (some (some (b:Int)))=some y∧Vw tag enc h y (xs.take b):=by
 obtain ⟨y,h1,h2⟩:=w.cut (a:=0) (b:=b) (QX _) hb (lo:=none) (hi:=some (b:Int)) rfl rfl
 exact ⟨y,h1,by simpa using h2⟩
end
def tLInt:List (Nat×RF):=[]
def Wai (b:Int):List Cell:=[.int .i64 b]
section
variable {F:Nat→Option RF} {Z:Waf} {h:Heap} {x y:Cell} {xs ys:List Int} {fp fq:List Nat}
end
structure Acc (tag:Nat) (h0 h:Heap) (x:Cell) (rows:List (List Cell)):Prop where
 on:On h0 h
 sh: ∃fp,SlR tag (Fl fun r=>r) h x rows fp∧Fre h0 fp
def catX (tag:Nat) (h:Heap) (x:Cell) (n:Nat):Cell:=match x with
 | .sl _ _ _ m=> .sl tag h.next 0 (m+n)
 | _=>if n=0 then .nil else .sl tag h.next 0 n
def catH (h:Heap) (x:Cell) (new:List (List Cell)):Heap:=match x with
 | .sl _ id _ _=>(h.kill id).push (((h.get id).getD [])++new)
 | _=>if new.length=0 then h else h.push new
theorem Fre.app {h h1:Heap} {p q:List Nat} (f:Fre h p) (hl: ∀id,id∈p→id<h1.next) (f1:Fre h1 q) (hn:h.next≤h1.next):Fre h (p++q):=
 ⟨fun id hid=>by
  rcases Qb.1 hid with hid | hid
  ·exact f.lo id hid
  ·have:=f1.lo id hid
   omega,Qc.2 ⟨f.nd,f1.nd,fun a ha b hb=>by
    have:=hl a ha
    have:=f1.lo b hb
    omega⟩⟩
section
variable {tag:Nat} {h0 h:Heap} {x y:Cell} {rows new:List (List Cell)}
theorem Acc.nil (tag:Nat) (h:Heap):Acc tag h h .nil []:=⟨On.refl h,[],SlR.nil _ _ _,Fre.nil h⟩
theorem Acc.none (o:On h0 h):Acc tag h0 h .nil []:=⟨o,[],SlR.nil _ _ _,Fre.nil h0⟩
theorem Fre.at {h0 h:Heap} (hn:h0.next≤h.next):Fre h0 [h.next]:=⟨fun id hid=>by simp at hid;omega,by simp⟩
theorem Acc.lit (o:On h0 h) (rows:List (List Cell)) (hl:rows.length≤140737488355328):Acc tag h0 (h.push rows) (.sl tag h.next 0 rows.length) rows:=
 ⟨o.trans (On.push h rows),[h.next],SlR.ofFlat (enc:=fun r=>r) (by unfold maxLen;omega) (by rw[Wbm];simp) (by rw[Wbu];omega),Fre.at o.ext.1⟩
theorem Acc.lit0 (o:On h0 h):Acc tag h0 (h.push []) (.sl tag h.next 0 0) []:=Acc.lit o [] (by simp)
theorem Acc.push (a:Acc tag h0 h x rows) (r:List (List Cell)):Acc tag h0 (h.push r) x rows:=by
 obtain ⟨o,fp,w,f⟩:=a
 exact ⟨o.trans (On.push h r),fp,w.on (Fl.ok _) (On.push h r),f⟩
theorem Acc.go {h':Heap} (a:Acc tag h0 h x rows) (o':On h h'):Acc tag h0 h' x rows:=by
 obtain ⟨o,fp,w,f⟩:=a
 exact ⟨o.trans o',fp,w.on (Fl.ok _) o',f⟩
theorem Acc.cat_eq (a:Acc tag h0 h x rows) (hf:h0.floor≤h0.next) {bytes:Nat} (hy:A.isTag tag y=true) (hr:rowsOf h y=some new) (hb:(rows.length+new.length)*bytes≤140737488355328):
 appF h tag bytes x y=some (catX tag h x new.length,catH h x new):=by
 obtain ⟨o,fp,w,f⟩:=a
 rw[appF,if_pos hy,hr]
 simp only[Qf]
 rcases w.flat with ⟨rfl,rfl,rfl⟩ | ⟨hx,hg,hn,rfl⟩
 ·simp only[QD,Qr] at hb
  simp only[catX,catH]
  split
  ·rfl
  ·simp[hb]
 ·have hfl:h.floor≤x.sid:=by rw[o.fl];exact Qx hf (f.lo _ (by simp))
  rw[hx]
  simp only[Cell.sid,catX,catH] at hg hfl hb ⊢
  simp only[hg,Qf,QE]
  simp[hfl,hb]
theorem Acc.cat (a:Acc tag h0 h x rows) (hf:h0.floor≤h0.next) (hl:rows.length+new.length≤140737488355328):Acc tag h0 (catH h x new) (catX tag h x new.length) (rows++new):=by
 obtain ⟨o,fp,w,f⟩:=a
 rcases w.flat with ⟨rfl,rfl,rfl⟩ | ⟨hx,hg,hn,rfl⟩
 ·simp only[catX,catH]
  split
  ·rename_i h0'
   have:new=[]:=Qw h0'
   subst this
   exact Acc.none o
  ·simp only[QQ]
   exact Acc.lit o new (by simp at hl;omega)
 ·have hlo:h0.next≤x.sid:=f.lo _ (by simp)
  have o1:On h0 (h.kill x.sid):=⟨⟨o.ext.1,fun id hid=>by
   simp only[Heap.kill]
   rw[if_neg (by omega)]
   exact o.ext.2 id hid⟩,o.fl⟩
  rw[hx] at o1 ⊢
  simp only[Cell.sid,catX,catH] at hg o1 ⊢
  simp only[hg,Option.getD_some,List.map_id_fun',id]
  have:=Acc.lit (tag:=tag) o1 (rows++new) (by simpa using hl)
  rw[QJ] at this
  exact this
theorem Acc.one_eq (a:Acc tag h0 h x rows) (hf:h0.floor≤h0.next) {bytes:Nat} (hb:(rows.length+1)*bytes≤140737488355328) (row:List Cell):
 appF (h.push [row]) tag bytes x (.sl tag h.next 0 1)=some (catX tag (h.push [row]) x 1,catH (h.push [row]) x [row]):=
 (a.push [row]).cat_eq (y:= .sl tag h.next 0 1) (new:=[row]) hf (by simp[A.isTag]) (by simp[rowsOf,Wbm]) hb
theorem Acc.one (a:Acc tag h0 h x rows) (hf:h0.floor≤h0.next) (hl:rows.length+1≤140737488355328) (row:List Cell):Acc tag h0 (catH (h.push [row]) x [row]) (catX tag (h.push [row]) x 1) (rows++[row]):=
 (a.push [row]).cat hf (new:=[row]) hl
theorem SlR.ofRaw {α:Type} {enc:α→List Cell} {xs:List α} {fp:List Nat} (w:SlR tag (Fl fun r=>r) h x (xs.map enc) fp):SlR tag (Fl enc) h x xs fp:=by
 have hl:=w.le
 rw[QE] at hl
 rcases w.flat with ⟨rfl,h2,rfl⟩ | ⟨hx,hg,hn,rfl⟩
 ·have:xs=[]:=List.map_eq_nil_iff.1 h2
  subst this
  exact SlR.nil _ _ _
 ·rw[QE] at hx
  rw[hx]
  exact SlR.ofFlat hl (by rw[hg];simp) hn
theorem Acc.flat {α:Type} {enc:α→List Cell} {xs:List α} (a:Acc tag h0 h x (xs.map enc)):On h0 h∧ ∃fp,SlR tag (Fl enc) h x xs fp∧Fre h0 fp:=by
 obtain ⟨o,fp,w,f⟩:=a
 exact ⟨o,fp,w.ofRaw,f⟩
end
def Step2 (r:Option (Ex×St)) (J Q:St→Prop) (L:St→Option (Ex×St)):Prop:=(∃s',J s'∧r=L s')∨ ∃s',r=some (.ret,s')∧Q s'
section
variable {F:Nat→Option RF} {Z:Waf} {live:List Nat} {b:RC}
theorem loop_acc {α:Type} (xs:List α) (g:α→List (List Cell)) (tag:Nat) (h0:Heap) (st:Nat→Cell→Heap→St) (hg: ∀a,(g a).length≤1)
 (hs: ∀i (hi:i<xs.length) y h rows,Acc tag h0 h y rows→rows.length≤i→ ∃y' h',Acc tag h0 h' y' (rows++g xs[i])∧loop F Z live b (st i y h)=loop F Z live b (st (i+1) y' h')) {y:Cell} {h:Heap} (a0:Acc tag h0 h y []):
 ∃y' h',Acc tag h0 h' y' (xs.flatMap g)∧loop F Z live b (st 0 y h)=loop F Z live b (st xs.length y' h'):=by
 have key: ∀n,n≤xs.length→ ∃y' h',Acc tag h0 h' y' ((xs.take n).flatMap g)∧((xs.take n).flatMap g).length≤n∧loop F Z live b (st 0 y h)=loop F Z live b (st n y' h'):=by
  intro n
  induction n with
  | zero=>intro _;exact ⟨y,h,by simpa using a0,by simp,rfl⟩
  | succ n ih=>
    intro hn
    obtain ⟨y1,h1,a1,l1,e1⟩:=ih (by omega)
    obtain ⟨y2,h2,a2,e2⟩:=hs n (by omega) y1 h1 _ a1 l1
    have ht:(xs.take (n+1)).flatMap g=(xs.take n).flatMap g++g xs[n]:=by
     rw[Qy,Qd (by omega),List.flatMap_append];simp
    refine ⟨y2,h2,by rw[ht];exact a2,?_,e1.trans e2⟩
    rw[ht,QJ]
    have:=hg xs[n]
    omega
 obtain ⟨y',h',a',_,e'⟩:=key xs.length (Qe _)
 rw[QA] at a'
 exact ⟨y',h',a',e'⟩
theorem loop_find {α:Type} (xs:List α) (p:α→Bool) (st:Nat→St) (Q:Nat→St→Prop) (hs: ∀i (hi:i<xs.length),Turn (loop F Z live b (st i)) (loop F Z live b (st (i+1))) (!p xs[i]) (Q i)):
 (xs.findIdx? p=none∧loop F Z live b (st 0)=loop F Z live b (st xs.length))∨ ∃i,xs.findIdx? p=some i∧i<xs.length∧ ∃s,loop F Z live b (st 0)=some (.ret,s)∧Q i s:=by
 have key: ∀n,n≤xs.length→((∀i (hi:i<xs.length),i<n→p xs[i]=false)∧loop F Z live b (st 0)=loop F Z live b (st n))∨ ∃i,xs.findIdx? p=some i∧i<xs.length∧ ∃s,loop F Z live b (st 0)=some (.ret,s)∧Q i s:=by
  intro n
  induction n with
  | zero=>intro _;exact .inl ⟨fun i hi h=>absurd h (Qg _),rfl⟩
  | succ n ih=>
    intro hn
    rcases ih (by omega) with ⟨h1,h2⟩ | h
    ·rcases hs n (by omega) with ⟨h3,h4⟩ | ⟨h3,s,h4,h5⟩
     ·refine .inl ⟨fun i hi hl=> ?_,h2.trans h4⟩
      by_cases he:i=n
      ·subst he;simpa using h3
      ·exact h1 i hi (by omega)
     ·refine .inr ⟨n,?_,by omega,s,h2.trans h4,h5⟩
      rw[Qi]
      refine ⟨by omega,by simpa using h3,fun j hj=> ?_⟩
      simpa using h1 j (by omega) (by omega)
    ·exact .inr h
 rcases key xs.length (Qe _) with ⟨h1,h2⟩ | h
 ·refine .inl ⟨?_,h2⟩
  rw[Qt]
  intro a ha
  obtain ⟨i,hi,rfl⟩:=Qv.1 ha
  exact h1 i hi hi
 ·exact .inr h
theorem loop_rel (n:Nat) (I:Nat→St→Prop) (Q:St→Prop) (hs: ∀i s,i<n→I i s→Step2 (loop F Z live b s) (I (i+1)) Q (loop F Z live b)) {s:St} (h0:I 0 s):
 (∃s',I n s'∧loop F Z live b s=loop F Z live b s')∨ ∃s',loop F Z live b s=some (.ret,s')∧Q s':=by
 induction n with
 | zero=>exact .inl ⟨s,h0,rfl⟩
 | succ n ih=>
   rcases ih fun i s hi=>hs i s (by omega) with ⟨s1,i1,e1⟩ | h
   ·rcases hs n s1 (by omega) i1 with ⟨s2,i2,e2⟩ | ⟨s2,e2,q2⟩
    ·exact .inl ⟨s2,i2,e1.trans e2⟩
    ·exact .inr ⟨s2,e1.trans e2,q2⟩
   ·exact .inr h
def Wbt {α:Type} (p:α→Bool) (xs:List α):Int:=match xs.findIdx? p with
 | some i=>(i:Int)
 | none=> -1
end
section
variable {α:Type} {R:Rel α} {tag:Nat} {h:Heap} {x:Cell} {xs:List α} {fp:List Nat}
theorem SlR.one (w:SlR tag R h x xs fp) {i:Nat} (hi:i<xs.length): ∃r f,(∀j n,WaC h x.sid i j n=cut? r j n)∧R h r xs[i] f∧ ∀id,id∈f→id∈fp:=by
 obtain ⟨r,f,h1,h2,h3⟩:=w.row hi
 exact ⟨r,f,fun j n=>by simp[WaC,h1],h2,h3⟩
structure Filled (R:Rel α) (h0 g:Heap) (o:Nat) (z:List Cell) (xs:List α) (i:Nat) (rows:List (List Cell)) (fps:List (List Nat)):Prop where
 on:On h0 g
 ge:h0.next≤o
 lt:o<g.next
 get:g.get o=some rows
 len:rows.length=xs.length
 rel:AllR R g (rows.take i) (xs.take i) fps
 rest: ∀j,i≤j→j<xs.length→rows[j]? =some z
 nd:fps.flatten.Nodup
 out: ∀id,id∈fps.flatten→o<id
theorem AllR.snoc {h:Heap}: ∀{rows:List (List Cell)} {xs:List α} {fps:List (List Nat)},AllR R h rows xs fps→ ∀{r a f},R h r a f→AllR R h (rows++[r]) (xs++[a]) (fps++[f])
 | [],[],[],_=>fun w=>⟨w,trivial⟩
 | _::_,_::_,_::_,⟨w1,w⟩=>fun w2=>⟨w1,w.snoc w2⟩
 | [],[],_::_,w=>w.elim
 | [],_::_,_,w=>w.elim
 | _::_,[],_,w=>w.elim
 | _::_,_::_,[],w=>w.elim
theorem Filled.start (h:Heap) (z:List Cell) (xs:List α):Filled R h (h.push (List.replicate xs.length z)) h.next z xs 0 (List.replicate xs.length z) [] where
 on:=On.push _ _
 ge:=Qe _
 lt:=by rw[Wbu];omega
 get:=Wbm _ _
 len:=by simp
 rel:=trivial
 rest:=fun j _ hj=>by rw[List.getElem?_replicate,if_pos hj]
 nd:=QV
 out:=fun id hid=>by simp at hid
theorem Filled.step (ok:RelOk R) {h0 g g':Heap} {o:Nat} {z:List Cell} {i:Nat} {rows:List (List Cell)} {fps:List (List Nat)} (w:Filled R h0 g o z xs i rows fps) (hf:h0.floor≤h0.next) (hi:i<xs.length)
 {cs:List Cell} {fq:List Nat} (hz:cs.length=z.length) (o':On g g') (v:R g' cs xs[i] fq) (f:Fre g fq):
 storeP g' o i 0 cs=some (g'.put o (rows.set i cs))∧Filled R h0 (g'.put o (rows.set i cs)) o z xs (i+1) (rows.set i cs) (fps++[fq]):=by
 have hget:g'.get o=some rows:=by rw[o'.ext.2 o w.lt];exact w.get
 have hri:rows[i]? =some z:=w.rest i (Qe _) hi
 have hfl:g'.floor≤o:=by rw[o'.fl,w.on.fl];exact Qx hf w.ge
 have hlen:i<rows.length:=by rw[w.len];exact hi
 have hput: ∀id,id≠o→(g'.put o (rows.set i cs)).get id=g'.get id:=fun id hid=>by simp only[Heap.put];rw[if_neg hid]
 have hin: ∀id,id∈fps.flatten→id<g.next:=by
  intro id hid
  exact w.rel.lt ok id hid
 refine ⟨?_,?_⟩
 ·refine storeP_at hfl hget hri ?_
  rw[splice?,if_pos (by omega)]
  simp[←hz]
 ·refine ⟨⟨⟨Qx w.on.ext.1 o'.ext.1,fun id hid=> ?_⟩,o'.fl.trans w.on.fl⟩,w.ge,Qn w.lt o'.ext.1,by simp[Heap.put],by simp[w.len],?_,fun j h1 h2=> ?_,?_,fun id hid=> ?_⟩
  ·have:=w.ge
   rw[hput id (by omega),o'.ext.2 id (Qn hid w.on.ext.1)]
   exact w.on.ext.2 id hid
  ·have e1:(rows.set i cs).take (i+1)=rows.take i++[cs]:=by
    rw[Qy,Qo hlen]
    rw[List.take_set,List.set_eq_of_length_le (by simp;omega)]
    rfl
   have e2:xs.take (i+1)=xs.take i++[xs[i]]:=by rw[Qy,Qd hi];rfl
   rw[e1,e2]
   have v':R (g'.put o (rows.set i cs)) cs xs[i] fq:=ok.mv v (Qe _) fun id hid=>hput id (by have:=f.lo id hid;have:=w.lt;omega)
   refine AllR.snoc (w.rel.mv (h':=g'.put o (rows.set i cs)) ok o'.ext.1 fun id hid=> ?_) v'
   rw[hput id (by have:=w.out id hid;omega)]
   exact o'.ext.2 id (hin id hid)
  ·rw[QG (by omega)]
   exact w.rest j (by omega) h2
  ·rw[QI]
   simp only[Qa,Qs,Qp]
   exact Qc.2 ⟨w.nd,f.nd,fun a ha b hb=>by have:=hin a ha;have:=f.lo b hb;omega⟩
  ·rw[QI] at hid
   simp only[Qa,Qs,Qp] at hid
   rcases Qb.1 hid with hid | hid
   ·exact w.out id hid
   ·have:=f.lo id hid
    have:=w.lt
    omega
theorem Filled.all {h0 g:Heap} {o:Nat} {z:List Cell} {rows:List (List Cell)} {fps:List (List Nat)} (w:Filled R h0 g o z xs xs.length rows fps) (hl:xs.length≤1048576) (tag:Nat):
 On h0 g∧SlR tag R g (.sl tag o 0 xs.length) xs (o::fps.flatten)∧Fre h0 (o::fps.flatten):=by
 have hr:=w.rel
 rw[QA,←w.len,QA] at hr
 refine ⟨w.on,⟨by unfold maxLen;omega,.inr ⟨o,rows,fps,rfl,w.get,w.lt,rfl,hr⟩⟩,⟨fun id hid=> ?_,?_⟩⟩
 ·have:=w.ge
  rcases Ql.1 hid with rfl | hid
  ·omega
  ·have:=w.out id hid;omega
 ·exact Qj.2 ⟨fun hc=>by have:=w.out o hc;omega,w.nd⟩
end
def TurnO (r:Option (Ex×St)) (next:Heap→Option (Ex×St)) (g:Heap) (p:Bool) (Q:St→Prop):Prop:=
 (p=true∧ ∃g',On g g'∧r=next g')∨(p=false∧ ∃s',r=some (.ret,s')∧On g s'.hp∧Q s')
section
variable {F:Nat→Option RF} {Z:Waf} {live:List Nat} {b:RC}
theorem loop_on (n:Nat) (st:Nat→Heap→St) (h:Heap) (P:Nat→Bool) (Q:St→Prop)
 (hs: ∀i g,i<n→On h g→TurnO (loop F Z live b (st i g)) (fun g'=>loop F Z live b (st (i+1) g')) g (P i) Q):
 TurnO (loop F Z live b (st 0 h)) (fun g'=>loop F Z live b (st n g')) h ((List.range n).all P) Q:=by
 induction n with
 | zero=>exact .inl ⟨rfl,h,On.refl h,rfl⟩
 | succ n ih=>
   have hl:(List.range (n+1)).all P=((List.range n).all P&&P n):=by rw[QR,QS];simp
   rcases ih fun i g hi=>hs i g (by omega) with ⟨h1,g1,o1,e1⟩ | ⟨h1,s',e1,o1,q1⟩
   ·rcases hs n g1 (by omega) o1 with ⟨h3,g2,o2,e2⟩ | ⟨h3,s',e2,o2,q2⟩
    ·exact .inl ⟨by rw[hl,h1,h3];rfl,g2,o1.trans o2,e1.trans e2⟩
    ·exact .inr ⟨by rw[hl,h1,h3];rfl,s',e1.trans e2,o1.trans o2,q2⟩
   ·exact .inr ⟨by rw[hl,h1];rfl,s',e1,o1,q1⟩
end
theorem WbY {h:Heap} (r:List (List Cell)) {id:Nat} (hid:id≠h.next):(h.push r).get id=h.get id:=by simp only[Heap.push];rw[if_neg hid]
theorem kill_ne {h:Heap} {k id:Nat} (hid:id≠k):(h.kill k).get id=h.get id:=by simp only[Heap.kill];rw[if_neg hid]
theorem WbO {h:Heap} {k id:Nat} (r:List (List Cell)) (hid:id≠k):(h.put k r).get id=h.get id:=by simp only[Heap.put];rw[if_neg hid]
theorem kill_next (h:Heap) (k:Nat):(h.kill k).next=h.next:=rfl
structure AccM {α:Type} (R:Rel α) (tag:Nat) (h0 h:Heap) (x:Cell) (xs:List α) (fp:List Nat):Prop where
 on:On h0 h
 sh:SlR tag R h x xs fp
 fr:Fre h0 fp
section
variable {α:Type} {R:Rel α} {tag:Nat} {h0 h g:Heap} {x:Cell} {xs:List α} {fp fq:List Nat}
theorem AccM.nil (R:Rel α) (tag:Nat) (h:Heap):AccM R tag h h .nil [] []:=⟨On.refl h,SlR.nil _ _ _,Fre.nil h⟩
theorem AccM.none (R:Rel α) (tag:Nat) (o:On h0 h):AccM R tag h0 h .nil [] []:=⟨o,SlR.nil _ _ _,Fre.nil h0⟩
theorem AccM.lit0 (R:Rel α) (tag:Nat) (o:On h0 h):AccM R tag h0 (h.push []) (.sl tag h.next 0 0) [] [h.next]:=
 ⟨o.trans (On.push h []),⟨by simp,.inr ⟨h.next,[],[],rfl,Wbm _ _,by rw[Wbu];omega,rfl,trivial⟩⟩,Fre.at o.ext.1⟩
theorem AccM.go (a:AccM R tag h0 h x xs fp) (ok:RelOk R) (o:On h g):AccM R tag h0 g x xs fp:=⟨a.on.trans o,a.sh.on ok o,a.fr⟩
theorem Fre.gt (f:Fre h0 fp): ∀id,id<h0.next→id∉fp:=fun id h1 h2=>by have:=f.lo id h2;omega
theorem Fre.sep {p q:List Nat} (f:Fre h0 p) (hp: ∀id,id∈p→id<h.next) (g:Fre h q): ∀id,id∈q→id∉p:=fun id h1 h2=>by
 have:=hp id h2
 have:=g.lo id h1
 omega
theorem flat_snoc {fps:List (List Nat)} {fq:List Nat}:(fps++[fq]).flatten=fps.flatten++fq:=by simp
theorem AccM.one (ok:RelOk R) (a:AccM R tag h0 h x xs fp) (hf:h0.floor≤h0.next) {bytes:Nat} (hb:(xs.length+1)*bytes≤140737488355328) (hl:xs.length+1≤140737488355328)
 (o:On h g) {cs:List Cell} {t:α} (v:R g cs t fq) (f:Fre h0 fq) (d: ∀id,id∈fq→id∉fp):
 ∃y' g' fp',appF (g.push [cs]) tag bytes x (.sl tag g.next 0 1)=some (y',g')∧AccM R tag h0 g' y' (xs++[t]) fp'∧h.next≤g'.next∧(∀id,id∈fp'→id∈fp∨id∈fq∨g.next≤id)∧(∀id,id<g.next→id∉fp→g'.get id=g.get id):=by
 have on':=a.on.trans o
 have hlt: ∀id,id∈fq→id<g.next:=ok.lt v
 have hp1: ∀id,id<g.next→(g.push [cs]).get id=g.get id:=fun id hid=>by simp only[Heap.push];rw[if_neg (by omega)]
 have hn:=o.ext.1
 rcases a.sh with ⟨_,⟨rfl,rfl,rfl⟩ | ⟨id,rows,fps,rfl,q1,q2,rfl,q3⟩⟩
 ·refine ⟨.sl tag (g.next+1) 0 1,(g.push [cs]).push [cs],(g.next+1)::([fq]:List (List Nat)).flatten,?_,⟨on'.trans ((On.push _ _).trans (On.push _ _)),⟨by simp[maxLen],.inr ⟨g.next+1,[cs],[fq],rfl,?_,?_,rfl,?_⟩⟩,⟨?_,?_⟩⟩,?_,?_,?_⟩
  ·simp only[QD,Qr] at hb
   simp only[appF,isTag,beq_self_eq_true,↓reduceIte,rowsOf,Wbm,Qf,QF,Qr,Qe,QH,QW,QU,QK]
   rw[if_neg (by omega),if_pos (by omega)];rfl
  ·exact Wbm _ _
  ·simp only[Wbu];omega
  ·refine ⟨ok.mv v (by simp only[Wbu];omega) fun id hid=> ?_,trivial⟩
   have:=hlt id hid
   rw[WbY _ (by rw[Wbu];omega),WbY _ (by omega)]
  ·intro id hid
   simp only[Qa,Qs,Qp,Ql] at hid
   rcases hid with rfl | hid
   ·have:=on'.ext.1;omega
   ·exact f.lo id hid
  ·simp only[Qa,Qs,Qp,Qj]
   exact ⟨fun hc=>by have:=hlt _ hc;omega,f.nd⟩
  ·simp only[Wbu];omega
  ·intro id hid
   simp only[Qa,Qs,Qp,Ql] at hid
   rcases hid with rfl | hid
   ·exact .inr (.inr (by omega))
   ·exact .inr (.inl hid)
  ·intro id h1 _
   rw[WbY _ (by rw[Wbu];omega),WbY _ (by omega)]
 ·have hlo:h0.next≤id:=a.fr.lo id (by simp)
  have hnd:=Qj.1 a.fr.nd
  have hrl:=q3.len
  have hg:(g.push [cs]).get id=some rows:=by rw[hp1 id (by omega),o.ext.2 id q2,q1]
  have hfl:g.floor≤id:=by rw[on'.fl];omega
  have hin: ∀j,j∈fps.flatten→j<h.next:=q3.lt ok
  have hgt: ∀j,j<g.next→j≠id→(((g.push [cs]).kill id).push (rows++[cs])).get j=g.get j:=fun j h1 h2=>by
   rw[WbY _ (by rw[kill_next,Wbu];omega),kill_ne h2,WbY _ (by omega)]
  refine ⟨.sl tag (g.next+1) 0 (xs.length+1),((g.push [cs]).kill id).push (rows++[cs]),(g.next+1)::(fps++[fq]).flatten,?_,⟨⟨⟨?_,?_⟩,?_⟩,⟨by simp[maxLen];omega,.inr ⟨g.next+1,rows++[cs],fps++[fq],by simp,?_,?_,rfl,?_⟩⟩,⟨?_,?_⟩⟩,?_,?_,?_⟩
  ·simp only[appF,isTag,beq_self_eq_true,↓reduceIte,rowsOf,Wbm,Qf,QF,Qr,Qe,QH,QW,QU,QK,hg]
   simp only[hrl,push_floor,hfl,hb,and_self,↓reduceIte];rfl
  ·have:=on'.ext.1
   simp only[Heap.push,Heap.kill];omega
  ·intro j hj
   have:=on'.ext.1
   rw[hgt j (by omega) (by omega)]
   exact on'.ext.2 j hj
  ·exact on'.fl
  ·simp[Heap.push,Heap.kill]
  ·simp only[Heap.push,Heap.kill];omega
  ·refine AllR.snoc (q3.mv (h':=((g.push [cs]).kill id).push (rows++[cs])) ok (by simp only[Heap.push,Heap.kill];omega) fun j hj=> ?_) (ok.mv v (by simp only[Heap.push,Heap.kill];omega) fun j hj=> ?_)
   ·have h1:=hin j hj
    rw[hgt j (by omega) (fun e=>hnd.1 (e▸hj))]
    exact o.ext.2 j h1
   ·exact hgt j (hlt j hj) fun e=>d j hj (by rw[e];simp)
  ·intro j hj
   rw[flat_snoc] at hj
   rcases Ql.1 hj with rfl | hj
   ·have:=on'.ext.1;omega
   ·rcases Qb.1 hj with hj | hj
    ·exact a.fr.lo j (by simp[hj])
    ·exact f.lo j hj
  ·rw[flat_snoc,Qj]
   refine ⟨fun hc=> ?_,Qc.2 ⟨hnd.2,f.nd,fun p hp q hq e=>d q hq (by rw[←e];simp[hp])⟩⟩
   rcases Qb.1 hc with hc | hc
   ·have:=hin _ hc;omega
   ·have:=hlt _ hc;omega
  ·simp only[Heap.push,Heap.kill];omega
  ·intro j hj
   rw[flat_snoc] at hj
   rcases Ql.1 hj with rfl | hj
   ·exact .inr (.inr (by omega))
   ·rcases Qb.1 hj with hj | hj
    ·exact .inl (by simp[hj])
    ·exact .inr (.inl hj)
  ·intro j h1 h2
   exact hgt j h1 fun e=>h2 (by rw[e];simp)
end
theorem Wcd {fq:List Nat} {id:Nat}: ∀(fps:List (List Nat)) (i:Nat),id∈(fps.set i fq).flatten→id∈fps.flatten∨id∈fq
 | [],i,h=>by simp at h
 | f::r,0,h=>by
   simp only[QL,Qa,Qb] at h ⊢
   rcases h with h | h
   ·exact .inr h
   ·exact .inl (.inr h)
 | f::r,i+1,h=>by
   simp only[QM,Qa,Qb] at h ⊢
   rcases h with h | h
   ·exact .inl (.inl h)
   ·rcases Wcd r i h with h | h
    ·exact .inl (.inr h)
    ·exact .inr h
theorem flat_set_nodup {fq:List Nat} (nq:fq.Nodup): ∀(fps:List (List Nat)) (i:Nat) (f:List Nat),fps[i]? =some f→fps.flatten.Nodup→(∀id,id∈fq→id∈f∨id∉fps.flatten)→(fps.set i fq).flatten.Nodup
 | [],i,f,h,_,_=>by simp at h
 | g::r,0,f,h,nd,hd=>by
   simp only[Qm,Option.some.injEq] at h
   subst h
   simp only[QL,Qa] at nd ⊢
   obtain ⟨n1,n2,n3⟩:=Qc.1 nd
   refine Qc.2 ⟨nq,n2,fun a ha b hb e=> ?_⟩
   subst e
   rcases hd a ha with h | h
   ·exact n3 a h a hb rfl
   ·exact h (by rw[Qa,Qb];exact .inr hb)
 | g::r,i+1,f,h,nd,hd=>by
   simp only[QB] at h
   simp only[QM,Qa] at nd ⊢
   obtain ⟨n1,n2,n3⟩:=Qc.1 nd
   refine Qc.2 ⟨n1,flat_set_nodup nq r i f h n2 fun id hid=> ?_,fun a ha b hb e=> ?_⟩
   ·rcases hd id hid with h | h
    ·exact .inl h
    ·exact .inr fun hc=>h (by rw[Qa,Qb];exact .inr hc)
   ·subst e
    rcases Wcd r i hb with hb | hb
    ·exact n3 a ha a hb rfl
    ·rcases hd a hb with h' | h'
     ·exact n3 a ha a (Qq.2 ⟨f,Qk h,h'⟩) rfl
     ·exact h' (by rw[Qa,Qb];exact .inl ha)
section
variable {α:Type} {R:Rel α} {tag:Nat} {h0 h g:Heap} {x:Cell} {xs:List α} {fp fq:List Nat}
theorem AllR.set {r:List Cell} {t:α} (w1:R h r t fq): ∀{rows:List (List Cell)} {xs:List α} {fps:List (List Nat)},AllR R h rows xs fps→ ∀(i:Nat),AllR R h (rows.set i r) (xs.set i t) (fps.set i fq)
 | [],[],[],_,_=>trivial
 | _::_,_::_,_::_,⟨_,w⟩,0=>⟨w1,w⟩
 | _::_,_::_,_::_,⟨w0,w⟩,i+1=>⟨w0,AllR.set w1 w i⟩
 | [],[],_::_,w,_=>w.elim
 | [],_::_,_,w,_=>w.elim
 | _::_,[],_,w,_=>w.elim
 | _::_,_::_,[],w,_=>w.elim
theorem SlR.setRow (ok:RelOk R) (w:SlR tag R h x xs fp) (nd:fp.Nodup) (hfl: ∀id,id∈fp→h.floor≤id) {i:Nat} (hi:i<xs.length):
 ∃r f,∃rows:List (List Cell),R h r xs[i] f∧(∀id,id∈f→id∈fp)∧f.Nodup∧x.sid∈fp∧x.sid∉f∧(∀j n,WaC h x.sid i j n=cut? r j n)∧(∀j new r',splice? r j new=some r'→storeP h x.sid i j new=some (h.put x.sid (rows.set i r')))∧
  ∀r' t' fq,R h r' t' fq→fq.Nodup→(∀id,id∈fq→id∈f∨id∉fp)→ ∃fp',SlR tag R (h.put x.sid (rows.set i r')) x (xs.set i t') fp'∧fp'.Nodup∧ ∀id,id∈fp'→id∈fp∨id∈fq:=by
 rcases w with ⟨hl,⟨rfl,rfl,rfl⟩ | ⟨id,rows,fps,rfl,q1,q2,rfl,q3⟩⟩
 ·exact absurd hi (Qg _)
 obtain ⟨r,f,e1,e2,v⟩:=q3.at i hi
 have hn:=Qj.1 nd
 have hin: ∀j,j∈f→j∈fps.flatten:=fun j hj=>Qq.2 ⟨f,Qk e2,hj⟩
 have hfn:f.Nodup:=by
  have: ∀(fps:List (List Nat)) (i:Nat),fps[i]? =some f→fps.flatten.Nodup→f.Nodup:=by
   intro fps
   induction fps with
   | nil=>intro i h _;simp at h
   | cons g r ih=>
     intro i h nd
     rw[Qa] at nd
     obtain ⟨n1,n2,_⟩:=Qc.1 nd
     cases i with
     | zero=>simp only[Qm,Option.some.injEq] at h;exact h▸n1
     | succ i=>exact ih i (by simpa using h) n2
  exact this fps i e2 hn.2
 refine ⟨r,f,rows,v,fun j hj=>Qh _ (hin j hj),hfn,by simp[Cell.sid],fun hc=>hn.1 (hin _ hc),fun j n=>by simp[WaC,WbL,Cell.sid,q1,e1],fun j new r' hs=> ?_,fun r' t' fq v' nq hd=> ?_⟩
 ·exact storeP_at (hfl _ (by simp[Cell.sid])) q1 e1 hs
 ·have hne: ∀j,j∈fq→j≠id:=fun j hj e=>by
   rcases hd j hj with h1 | h1
   ·exact hn.1 (e▸hin j h1)
   ·exact h1 (by rw[e];simp)
  refine ⟨id::(fps.set i fq).flatten,⟨by simpa using hl,.inr ⟨id,rows.set i r',fps.set i fq,by simp,by simp[Heap.put,Cell.sid],q2,rfl,?_⟩⟩,?_,?_⟩
  ·have v'':R (h.put id (rows.set i r')) r' t' fq:=ok.mv v' (Qe _) fun j hj=>WbO _ (hne j hj)
   exact AllR.set v'' (q3.mv (h':=h.put id (rows.set i r')) ok (Qe _) fun j hj=>WbO _ fun e=>hn.1 (e▸hj)) i
  ·rw[Qj]
   refine ⟨fun hc=> ?_,flat_set_nodup nq fps i f e2 hn.2 fun j hj=> ?_⟩
   ·rcases Wcd _ _ hc with hc | hc
    ·exact hn.1 hc
    ·exact hne _ hc rfl
   ·rcases hd j hj with h1 | h1
    ·exact .inl h1
    ·exact .inr fun hc=>h1 (Qh _ hc)
  ·intro j hj
   rcases Ql.1 hj with rfl | hj
   ·exact .inl (by simp)
   ·rcases Wcd _ _ hj with hj | hj
    ·exact .inl (Qh _ hj)
    ·exact .inr hj
theorem AllR.turn (ok:RelOk R) {h':Heap} (hn:h.next≤h'.next) {r':List Cell} {t':α}: ∀{rows:List (List Cell)} {xs:List α} {fps:List (List Nat)},AllR R h rows xs fps→ ∀(i:Nat) (f:List Nat),fps[i]? =some f→fps.flatten.Nodup→
 (∀id,id∈fps.flatten→id∉f→h'.get id=h.get id)→R h' r' t' f→AllR R h' (rows.set i r') (xs.set i t') fps
 | [],[],[],_,i,f,e,_,_,_=>by simp at e
 | r::rs,a::bs,g::gs,⟨w0,w⟩,0,f,e,nd,hg,v=>by
   simp only[Qm,Option.some.injEq] at e
   subst e
   rw[Qa] at nd
   obtain ⟨n1,n2,n3⟩:=Qc.1 nd
   exact ⟨v,w.mv ok hn fun id hid=>hg id (by rw[Qa,Qb];exact .inr hid) fun hf=>n3 id hf id hid rfl⟩
 | r::rs,a::bs,g::gs,⟨w0,w⟩,i+1,f,e,nd,hg,v=>by
   simp only[QB] at e
   rw[Qa] at nd
   obtain ⟨n1,n2,n3⟩:=Qc.1 nd
   exact ⟨ok.mv w0 hn fun id hid=>hg id (by rw[Qa,Qb];exact .inl hid) fun hf=>n3 id hid id (Qq.2 ⟨f,Qk e,hf⟩) rfl,
    AllR.turn ok hn w i f e n2 (fun id hid hf=>hg id (by rw[Qa,Qb];exact .inr hid) hf) v⟩
 | [],[],_::_,w,_,_,_,_,_,_=>w.elim
 | [],_::_,_,w,_,_,_,_,_,_=>w.elim
 | _::_,[],_,w,_,_,_,_,_,_=>w.elim
 | _::_,_::_,[],w,_,_,_,_,_,_=>w.elim
theorem flat_at_nodup {f:List Nat}: ∀(fps:List (List Nat)) (i:Nat),fps[i]? =some f→fps.flatten.Nodup→f.Nodup
 | [],i,h,_=>by simp at h
 | g::r,i,h,nd=>by
   rw[Qa] at nd
   obtain ⟨n1,n2,_⟩:=Qc.1 nd
   cases i with
   | zero=>simp only[Qm,Option.some.injEq] at h;exact h▸n1
   | succ i=>exact flat_at_nodup r i (by simpa using h) n2
theorem SlR.turn (ok:RelOk R) (w:SlR tag R h x xs fp) (nd:fp.Nodup) {i:Nat} (hi:i<xs.length):
 ∃r f,∃rows:List (List Cell),R h r xs[i] f∧(∀id,id∈f→id∈fp)∧f.Nodup∧x.sid∈fp∧x.sid∉f∧x.sid<h.next∧h.get x.sid=some rows∧rows[i]? =some r∧i<rows.length∧
  ∀h' r' t',h.next≤h'.next→(∀id,id∈fp→id≠x.sid→id∉f→h'.get id=h.get id)→h'.get x.sid=some (rows.set i r')→R h' r' t' f→SlR tag R h' x (xs.set i t') fp:=by
 rcases w with ⟨hl,⟨rfl,rfl,rfl⟩ | ⟨id,rows,fps,rfl,q1,q2,rfl,q3⟩⟩
 ·exact absurd hi (Qg _)
 obtain ⟨r,f,e1,e2,v⟩:=q3.at i hi
 have hn:=Qj.1 nd
 have hin: ∀j,j∈f→j∈fps.flatten:=fun j hj=>Qq.2 ⟨f,Qk e2,hj⟩
 refine ⟨r,f,rows,v,fun j hj=>Qh _ (hin j hj),flat_at_nodup fps i e2 hn.2,by simp[Cell.sid],fun hc=>hn.1 (hin _ hc),q2,q1,e1,by rw[q3.len];exact hi,fun h' r' t' hn' hg hg' v'=> ?_⟩
 refine ⟨by simpa using hl,.inr ⟨id,rows.set i r',fps,by simp,hg',Qn q2 hn',rfl,?_⟩⟩
 exact q3.turn ok hn' i f e2 hn.2 (fun j hj hf=>hg j (Qh _ hj) (fun e=>hn.1 (by simp only[Cell.sid] at e;exact e▸hj)) hf) v'
theorem Wbq {h:Heap} {id i:Nat} {rows:List (List Cell)} {r:List Cell} (hg:h.get id=some rows) (hi:rows[i]? =some r) (j n:Nat):WaC h id i j n=cut? r j n:=by simp[WaC,WbL,hg,hi]
theorem loadP_put {h:Heap} {id i:Nat} {rows:List (List Cell)} (hi:i<rows.length) (r:List Cell) (j n:Nat):WaC (h.put id (rows.set i r)) id i j n=cut? r j n:=Wbq (rows:=rows.set i r) (by simp[Heap.put]) (Qo hi) j n
theorem put_row {h:Heap} {id i:Nat} {rows:List (List Cell)} {r:List Cell} (hg:h.get id=some rows) (hi:rows[i]? =some r):h.put id (rows.set i r)=h:=by
 have:rows.set i r=rows:=by
  apply QN
  intro j
  by_cases e:i=j
  ·subst e
   have hlt:i<rows.length:=by
    rcases Nat.lt_or_ge i rows.length with hlt | hge
    ·exact hlt
    ·rw[Qu hge] at hi;cases hi
   rw[Qo hlt,hi]
  ·rw[QG e]
 rw[this];exact put_same hg
end
section
variable {F:Nat→Option RF} {Z:Waf} {live:List Nat} {b:RC}
theorem loop_findO {α:Type} (xs:List α) (p:α→Bool) (st:Nat→Heap→St) (h:Heap) (Q:Nat→St→Prop)
 (hs: ∀i (hi:i<xs.length) g,On h g→TurnO (loop F Z live b (st i g)) (fun g'=>loop F Z live b (st (i+1) g')) g (!p xs[i]) (Q i)):
 (xs.findIdx? p=none∧ ∃g,On h g∧loop F Z live b (st 0 h)=loop F Z live b (st xs.length g))∨ ∃i,xs.findIdx? p=some i∧i<xs.length∧ ∃s,loop F Z live b (st 0 h)=some (.ret,s)∧On h s.hp∧Q i s:=by
 have key: ∀n,n≤xs.length→((∀i (hi:i<xs.length),i<n→p xs[i]=false)∧ ∃g,On h g∧loop F Z live b (st 0 h)=loop F Z live b (st n g))∨ ∃i,xs.findIdx? p=some i∧i<xs.length∧ ∃s,loop F Z live b (st 0 h)=some (.ret,s)∧On h s.hp∧Q i s:=by
  intro n
  induction n with
  | zero=>intro _;exact .inl ⟨fun i hi h=>absurd h (Qg _),h,On.refl h,rfl⟩
  | succ n ih=>
    intro hn
    rcases ih (by omega) with ⟨h1,g,og,h2⟩ | h
    ·rcases hs n (by omega) g og with ⟨h3,g',og',h4⟩ | ⟨h3,s,h4,os,h5⟩
     ·refine .inl ⟨fun i hi hl=> ?_,g',og.trans og',h2.trans h4⟩
      by_cases he:i=n
      ·subst he;simpa using h3
      ·exact h1 i hi (by omega)
     ·refine .inr ⟨n,?_,by omega,s,h2.trans h4,og.trans os,h5⟩
      rw[Qi]
      refine ⟨by omega,by simpa using h3,fun j hj=> ?_⟩
      simpa using h1 j (by omega) (by omega)
    ·exact .inr h
 rcases key xs.length (Qe _) with ⟨h1,g,og,h2⟩ | h
 ·refine .inl ⟨?_,g,og,h2⟩
  rw[Qt]
  intro a ha
  obtain ⟨i,hi,rfl⟩:=Qv.1 ha
  exact h1 i hi hi
 ·exact .inr h
end
theorem findI_any {α:Type} (p:α→Bool) (xs:List α):decide (Wbt p xs≥0)=xs.any p:=by
 unfold Wbt
 cases hf:xs.findIdx? p with
 | none=>
   rw[Qt] at hf
   have:xs.any p=false:=by rw[List.any_eq_false];intro a ha;simp[hf a ha]
   rw[this];rfl
 | some i=>
   rw[Qi] at hf
   obtain ⟨h1,h2,_⟩:=hf
   have:xs.any p=true:=List.any_eq_true.2 ⟨_,QP h1,h2⟩
   rw[this];simp
section
variable {α:Type} {R:Rel α} {tag:Nat} {h0 h g:Heap} {x:Cell} {xs ys:List α} {fp fq:List Nat}
theorem SlR.rowsM (w:SlR tag R h x xs fp): ∃rows fps,rowsOf h x=some rows∧AllR R h rows xs fps:=by
 rcases w with ⟨_,⟨rfl,rfl,rfl⟩ | ⟨id,rows,fps,rfl,q1,q2,rfl,q3⟩⟩
 ·exact ⟨[],[],rfl,trivial⟩
 ·refine ⟨rows,fps,?_,q3⟩
  have:=q3.len
  simp only[rowsOf,q1,Qf,Qr]
  rw[if_pos (by omega),QH,QC (by omega)]
theorem AllR.app: ∀{r1 r2:List (List Cell)} {xs ys:List α} {f1 f2:List (List Nat)},AllR R h r1 xs f1→AllR R h r2 ys f2→AllR R h (r1++r2) (xs++ys) (f1++f2)
 | [],_,[],_,[],_,_,w=>w
 | _::_,_,_::_,_,_::_,_,⟨w1,w⟩,u=>⟨w1,AllR.app w u⟩
 | [],_,[],_,_::_,_,w,_=>w.elim
 | [],_,_::_,_,_,_,w,_=>w.elim
 | _::_,_,[],_,_,_,w,_=>w.elim
 | _::_,_,_::_,_,[],_,w,_=>w.elim
theorem Acc.shows (ok:RelOk R) {rows:List (List Cell)} {fps:List (List Nat)} (a:Acc tag h0 h x rows) (w:AllR R h0 rows xs fps): ∃fp,SlR tag R h x xs fp:=by
 obtain ⟨o,fp,v,f⟩:=a
 have w':AllR R h rows xs fps:=w.mv ok o.ext.1 fun id hid=>o.ext.2 id (w.lt ok id hid)
 have hl:=w.len
 have hle:=v.le
 rcases v.flat with ⟨rfl,h2,rfl⟩ | ⟨hx,hg,hn,rfl⟩
 ·have:xs=[]:=Qw (by rw[←hl,h2];rfl)
  subst this
  exact ⟨_,SlR.nil _ _ _⟩
 ·refine ⟨x.sid::fps.flatten,by omega,.inr ⟨x.sid,rows,fps,by rw[←hl];exact hx,by simpa using hg,hn,rfl,w'⟩⟩
end
section
variable {α:Type} {R:Rel α} {tag:Nat} {h0 h g:Heap} {x:Cell} {xs:List α} {fp fq:List Nat}
theorem On.turned (o:On h0 h) (m:Mk h g fp) (f:Fre h0 fp):On h0 g:=
 ⟨⟨by rw[m.next];exact o.ext.1,fun id hid=>by rw[m.get id (f.gt id hid)];exact o.ext.2 id hid⟩,m.fl.trans o.fl⟩
theorem Fre.own (f:Fre h0 fp) (o:On h0 h) (hf:h0.floor≤h0.next): ∀id,id∈fp→h.floor≤id:=fun id hid=>by
 rw[o.fl];exact Qx hf (f.lo id hid)
theorem Mk.then {a b c:Heap} (m:Mk a b fp) (n:Mk b c fp):Mk a c fp:=⟨n.next.trans m.next,n.fl.trans m.fl,fun id hid=>(n.get id hid).trans (m.get id hid)⟩
theorem SlR.putRow (ok:RelOk R) (w:SlR tag R h x xs fp) (nd:fp.Nodup) (hfl: ∀id,id∈fp→h.floor≤id) {i:Nat} (hi:i<xs.length):
 ∃r f,∃rows:List (List Cell),R h r xs[i] f∧x.sid∈fp∧(∀j n,WaC h x.sid i j n=cut? r j n)∧h.put x.sid (rows.set i r)=h∧
  (∀r1 j new,storeP (h.put x.sid (rows.set i r1)) x.sid i j new=putM h x.sid rows i (splice? r1 j new))∧(∀r1 j n,WaC (h.put x.sid (rows.set i r1)) x.sid i j n=cut? r1 j n)∧
  ∀r' t',R h r' t' f→SlR tag R (h.put x.sid (rows.set i r')) x (xs.set i t') fp∧Mk h (h.put x.sid (rows.set i r')) fp:=by
 obtain ⟨r,f,rows,hR,hin,nf,hs,hns,hsl,hg,hr,hir,fin⟩:=w.turn ok nd hi
 refine ⟨r,f,rows,hR,hs,Wbq hg hr,put_row hg hr,fun r1 j new=>storeP_put (hfl _ hs) hir r1 new j,fun r1 j n=>loadP_put hir r1 j n,fun r' t' v=>⟨?_,rfl,rfl,fun id hid=>WbO _ fun e=>hid (e▸hs)⟩⟩
 exact fin _ r' t' (Qe _) (fun id _ h2 _=>WbO _ h2) (by simp[Heap.put]) (ok.mv v (Qe _) fun id hid=>WbO _ fun e=>hns (e▸hid))
end
end Go.Proofs.YtjaideekkbpalaaGreat.A
