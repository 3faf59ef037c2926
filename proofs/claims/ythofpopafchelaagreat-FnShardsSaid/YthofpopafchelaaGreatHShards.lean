/- FnShards: the statement, from the law of the abstract run. No condition. -/
import Derived.Test.YthofpopafchelaaGreatHCShards4
import Derived.Test.YthofpopafchelaaGreatB6
import Derived.Test.YthofpopafchelaaGreatZ7
import Derived.Test.YthofpopafchelaaGreatProg
import Derived.Test.YthofpopafchelaaGreatRows
import Derived.ProofKit
import Derived.OpenShut
import Derived.ShutString
import Derived.ChangeOld
import Derived.Below
import Derived.SizedLaws
namespace Go.Proofs.YthofpopafchelaaGreat.A.Shards
open Go
set_option maxRecDepth 100000
def c:CC where
 T:=[(3,⟨1,8,false,some [.int .i64 0],(.int .i64)⟩),
  (4,⟨1,1,false,some [.bool false],.bool⟩),
  (5,⟨1,1,false,some [.int .u8 0],(.int .u8)⟩),
  (22,⟨1,24,false,some [.nil],(.slice 5 19)⟩),
  (24,⟨1,24,false,some [.nil],(.slice 44 16)⟩),
  (26,⟨3,40,true,some [.int .i64 0,.int .i64 0,.nil],(.struct [(0,1,false),(1,1,false),(2,1,false)])⟩),
  (27,⟨1,24,false,some [.nil],(.slice 32 3)⟩),
  (30,⟨1,8,false,some [.int .u64 0],(.int .u64)⟩),
  (32,⟨5,40,true,some [.int .i64 0,.int .i64 0,.int .u64 0,.int .u64 0,.int .i64 0],(.struct [(0,1,false),(1,1,false),(2,1,false),(3,1,false),(4,1,false)])⟩),
  (39,⟨1,24,false,some [.nil],(.slice 64 11)⟩),
  (41,⟨1,24,true,some [.nil],(.struct [(0,1,false)])⟩),
  (42,⟨1,24,false,some [.nil],(.slice 67 9)⟩),
  (44,⟨6,80,true,some [.int .u64 0,.int .u64 0,.int .i64 0,.int .i64 0,.nil,.nil],(.struct [(0,1,false),(1,1,false),(2,1,false),(3,1,false),(4,1,true),(5,1,false)])⟩),
  (64,⟨5,40,true,some [.int .u64 0,.int .u64 0,.int .u64 0,.int .u64 0,.int .i64 0],(.struct [(0,1,false),(1,1,false),(2,1,false),(3,1,false),(4,1,false)])⟩),
  (67,⟨2,16,true,some [.int .i64 0,.int .u64 0],(.struct [(0,1,false),(1,1,false)])⟩),
  (78,⟨3,40,true,some [.nil,.int .i64 0,.int .i64 0],(.struct [(0,1,false),(1,1,false),(2,1,false)])⟩),
  (82,⟨1,24,false,some [.nil],(.slice 3 15)⟩),
  (101,⟨1,8,false,some [.int .u64 0],(.int .u64)⟩),
  (110,⟨1,24,false,some [.nil],(.slice 30 13)⟩)]
 F:=[(3,406),(5,144),(6,384),(7,164),(8,312),(9,311),(10,385),(11,365),(12,157),(13,394),(17,397),(21,194),(22,392),(23,236),(24,238),(25,393),(26,381),(27,206),(28,209),(30,320),(31,212),(32,319),(33,332),(34,321),(35,211),(36,316),(37,317),(38,333),(39,228),(40,318),(41,213),(42,375),(43,267),(44,330),(45,229),(47,244),(48,396),(49,263),(50,239),(51,235),(52,237),(53,5),(54,240),(55,156),(56,243),(57,323),(58,324),(59,325),(60,326),(61,388),(62,389),(63,390),(64,391),(65,328),(66,374),(67,7),(68,248),(69,247),(72,259),(73,249),(76,275),(77,273),(78,274),(79,260),(80,266),(83,265),(84,271),(85,364),(86,290),(87,300),(88,264),(89,204),(90,241),(91,335),(92,336),(93,242),(105,276),(106,277),(107,272),(116,210)]
 eqT:=[(64,[.i .u64,.i .u64,.i .u64,.i .u64,.i .i64]),(67,[.i .i64,.i .u64])]
 adds:=[29]
def F:Nat→Option RF:=lk (tI10++tI11++tI13++tLBook++tLShard++tLStore++tLaws++tLibcmpCompareint++tLibcmpCompareuint64++tLibcmpOrint++tLibcmpisNaNint++tLibcmpisNaNuint64++tLibslicesContainsimplFinimplFin++tLibslicesIndexFuncimplShardimplShard++tLibslicesIndeximplFinimplFin++tS01d++tS10++tS11++tS13++tWFnShards)
def tab:List (Nat×FuncId×RF):=[(406,3,r406),(144,5,r144),(384,6,r384),(164,7,r164),(312,8,r312),(311,9,r311),(385,10,r385),(365,11,r365),(157,12,r157),(394,13,r394),(194,21,r194),(392,22,r392),(236,23,r236),(238,24,r238),(393,25,r393),(381,26,r381),(206,27,r206),(209,28,r209),(320,30,r320),(212,31,r212),(319,32,r319),(321,34,r321),(211,35,r211),(316,36,r316),(317,37,r317),(333,38,r333),(228,39,r228),(318,40,r318),(213,41,r213),(267,43,r267),(397,17,r397),(396,48,r396),(263,49,r263),(239,50,r239),(235,51,r235),(237,52,r237),(5,53,r5),(240,54,r240),(156,55,r156),(243,56,r243),(323,57,r323),(324,58,r324),(325,59,r325),(326,60,r326),(388,61,r388),(389,62,r389),(390,63,r390),(391,64,r391),(328,65,r328),(374,66,r374),(244,47,r244),(7,67,r7),(229,45,r229),(248,68,r248),(247,69,r247),(259,72,r259),(249,73,r249),(275,76,r275),(273,77,r273),(274,78,r274),(271,84,r271),(364,85,r364),(290,86,r290),(300,87,r300),(264,88,r264),(204,89,r204),(241,90,r241),(335,91,r335),(336,92,r336),(242,93,r242),(266,80,r266),(265,83,r265),(260,79,r260),(276,105,r276),(277,106,r277),(210,116,r210),(272,107,r272)]
def tags:List (Nat×TypeId×Nat):=[(3,32,5),(9,67,2),(11,64,5),(13,30,1),(15,3,1),(16,44,6),(19,5,1)]
theorem inI10:AllT (fun x=>F x.1=some x.2) tI10:=⟨rfl,rfl,rfl,trivial⟩
theorem inI11:AllT (fun x=>F x.1=some x.2) tI11:=⟨rfl,trivial⟩
theorem inI13:AllT (fun x=>F x.1=some x.2) tI13:=⟨rfl,rfl,rfl,rfl,rfl,rfl,rfl,rfl,rfl,rfl,rfl,rfl,rfl,rfl,rfl,trivial⟩
theorem inLBook:AllT (fun x=>F x.1=some x.2) tLBook:=⟨rfl,trivial⟩
theorem inLShard:AllT (fun x=>F x.1=some x.2) tLShard:=⟨rfl,trivial⟩
theorem inLStore:AllT (fun x=>F x.1=some x.2) tLStore:=⟨rfl,trivial⟩
theorem inLaws:AllT (fun x=>F x.1=some x.2) tLaws:=⟨rfl,trivial⟩
theorem inLibcmpCompareint:AllT (fun x=>F x.1=some x.2) tLibcmpCompareint:=⟨rfl,trivial⟩
theorem inLibcmpCompareuint64:AllT (fun x=>F x.1=some x.2) tLibcmpCompareuint64:=⟨rfl,trivial⟩
theorem inLibcmpOrint:AllT (fun x=>F x.1=some x.2) tLibcmpOrint:=⟨rfl,trivial⟩
theorem inLibcmpisNaNint:AllT (fun x=>F x.1=some x.2) tLibcmpisNaNint:=⟨rfl,trivial⟩
theorem inLibcmpisNaNuint64:AllT (fun x=>F x.1=some x.2) tLibcmpisNaNuint64:=⟨rfl,trivial⟩
theorem inLibslicesContainsimplFinimplFin:AllT (fun x=>F x.1=some x.2) tLibslicesContainsimplFinimplFin:=⟨rfl,trivial⟩
theorem inLibslicesIndexFuncimplShardimplShard:AllT (fun x=>F x.1=some x.2) tLibslicesIndexFuncimplShardimplShard:=⟨rfl,trivial⟩
theorem inLibslicesIndeximplFinimplFin:AllT (fun x=>F x.1=some x.2) tLibslicesIndeximplFinimplFin:=⟨rfl,trivial⟩
theorem inS01d:AllT (fun x=>F x.1=some x.2) tS01d:=⟨rfl,rfl,rfl,rfl,rfl,rfl,rfl,rfl,trivial⟩
theorem inS10:AllT (fun x=>F x.1=some x.2) tS10:=⟨rfl,rfl,rfl,rfl,rfl,rfl,rfl,rfl,rfl,rfl,rfl,rfl,rfl,rfl,rfl,trivial⟩
theorem inS11:AllT (fun x=>F x.1=some x.2) tS11:=⟨rfl,trivial⟩
theorem inS13:AllT (fun x=>F x.1=some x.2) tS13:=⟨rfl,rfl,rfl,rfl,rfl,rfl,rfl,rfl,rfl,rfl,rfl,rfl,rfl,rfl,rfl,rfl,rfl,rfl,rfl,rfl,rfl,trivial⟩
theorem inWFnShards:AllT (fun x=>F x.1=some x.2) tWFnShards:=⟨rfl,trivial⟩
open Go.Shelf
def ptab:List (Nat×FuncId×PrimF):=[(332,33,(insF 16 80)),(375,42,(sortF 9 267)),(330,44,(delF 16))]
theorem i44:(Tryz.prog.info? 44).isSome=true:=by kernel_rfl
noncomputable def inf44:TypeInfo:=(Tryz.prog.info? 44).get i44
theorem z44:inf44.zero.isSome=true:=by kernel_rfl
noncomputable def zv44:Value:=inf44.zero.get z44
theorem p332:Z.InsT Tryz.prog (renI 33 70 71 3 4 44 24) 6 80 zv44 where
 mixed:=by kernel_rfl
 f22 := ⟨(Tryz.prog.funcs[33]?.map (·.name)).getD "", by kernel_rfl, by kernel_rfl⟩
 f29:=⟨Tryz.f70,Tryz.func70,by kernel_rfl,by kernel_rfl,by kernel_rfl,by kernel_rfl⟩
 t3:=by kernel_rfl
 t4:=by kernel_rfl
 t24:=by kernel_rfl
 i9:=⟨inf44,(Option.some_get i44).symm,by kernel_rfl,by kernel_rfl,(Option.some_get z44).symm,by kernel_rfl,by decide⟩
theorem i67:(Tryz.prog.info? 67).isSome=true:=by kernel_rfl
noncomputable def inf67:TypeInfo:=(Tryz.prog.info? 67).get i67
theorem z67:inf67.zero.isSome=true:=by kernel_rfl
noncomputable def zv67:Value:=inf67.zero.get z67
theorem p375:SlLaysF0.n6 Tryz.prog (renS [(6,42),(14,74),(15,75),(20,95),(21,96),(22,97),(23,98),(24,99),(25,100),(26,101),(27,102),(28,103),(29,104),(46,118),(47,119),(48,120),(49,121),(50,122),(57,132)] [(0,0),(3,3),(4,4),(5,5),(9,9),(22,42),(24,67),(25,74),(39,101),(45,116),(46,117),(50,106),(53,123),(55,30),(66,128),(70,132),(76,138),(77,139)]) where
 mixed:=by kernel_rfl
 f6 := ⟨(Tryz.prog.funcs[42]?.map (·.name)).getD "", by kernel_rfl, by kernel_rfl⟩
 f14 := ⟨(Tryz.prog.funcs[74]?.map (·.name)).getD "", by kernel_rfl, by kernel_rfl⟩
 f15:=Tryz.func75.trans (congrArg some (by kernel_rfl))
 f20 := ⟨(Tryz.prog.funcs[95]?.map (·.name)).getD "", by kernel_rfl, by kernel_rfl⟩
 f21 := ⟨(Tryz.prog.funcs[96]?.map (·.name)).getD "", by kernel_rfl, by kernel_rfl⟩
 f22 := ⟨(Tryz.prog.funcs[97]?.map (·.name)).getD "", by kernel_rfl, by kernel_rfl⟩
 f23 := ⟨(Tryz.prog.funcs[98]?.map (·.name)).getD "", by kernel_rfl, by kernel_rfl⟩
 f24 := ⟨(Tryz.prog.funcs[99]?.map (·.name)).getD "", by kernel_rfl, by kernel_rfl⟩
 f25 := ⟨(Tryz.prog.funcs[100]?.map (·.name)).getD "", by kernel_rfl, by kernel_rfl⟩
 f26 := ⟨(Tryz.prog.funcs[101]?.map (·.name)).getD "", by kernel_rfl, by kernel_rfl⟩
 f27 := ⟨(Tryz.prog.funcs[102]?.map (·.name)).getD "", by kernel_rfl, by kernel_rfl⟩
 f28:=Tryz.func103.trans (congrArg some (by kernel_rfl))
 f29:=Tryz.func104.trans (congrArg some (by kernel_rfl))
 f46 := ⟨(Tryz.prog.funcs[118]?.map (·.name)).getD "", by kernel_rfl, by kernel_rfl⟩
 f47:=Tryz.func119.trans (congrArg some (by kernel_rfl))
 f48:=Tryz.func120.trans (congrArg some (by kernel_rfl))
 f49 := ⟨(Tryz.prog.funcs[121]?.map (·.name)).getD "", by kernel_rfl, by kernel_rfl⟩
 f50 := ⟨(Tryz.prog.funcs[122]?.map (·.name)).getD "", by kernel_rfl, by kernel_rfl⟩
 f57 := ⟨(Tryz.prog.funcs[132]?.map (·.name)).getD "", by kernel_rfl, by kernel_rfl⟩
 t0:=Tryz.underlying0
 a0:=Tryz.isAgg0
 z0:=Tryz.sizeOf0
 v0:=Tryz.zeroValue0
 t3:=Tryz.underlying3
 a3:=Tryz.isAgg3
 z3:=Tryz.sizeOf3
 v3:=Tryz.zeroValue3
 t4:=Tryz.underlying4
 a4:=Tryz.isAgg4
 z4:=Tryz.sizeOf4
 v4:=Tryz.zeroValue4
 t5:=Tryz.underlying5
 a5:=Tryz.isAgg5
 z5:=Tryz.sizeOf5
 v5:=Tryz.zeroValue5
 t9:=Tryz.underlying9
 a9:=Tryz.isAgg9
 z9:=Tryz.sizeOf9
 v9:=Tryz.zeroValue9
 t22:=Tryz.underlying42
 a22:=Tryz.isAgg42
 z22:=Tryz.sizeOf42
 v22:=Tryz.zeroValue42
 t25:=Tryz.underlying74
 a25:=Tryz.isAgg74
 z25:=Tryz.sizeOf74
 v25:=Tryz.zeroValue74
 t39:=Tryz.underlying101
 a39:=Tryz.isAgg101
 z39:=Tryz.sizeOf101
 v39:=Tryz.zeroValue101
 t45:=Tryz.underlying116
 a45:=Tryz.isAgg116
 z45:=Tryz.sizeOf116
 v45:=Tryz.zeroValue116
 t46:=Tryz.underlying117
 a46:=Tryz.isAgg117
 z46:=Tryz.sizeOf117
 v46:=Tryz.zeroValue117
 t50:=Tryz.underlying106
 a50:=Tryz.isAgg106
 z50:=Tryz.sizeOf106
 v50:=Tryz.zeroValue106
 t53:=Tryz.underlying123
 a53:=Tryz.isAgg123
 z53:=Tryz.sizeOf123
 v53:=Tryz.zeroValue123
 t55:=Tryz.underlying30
 a55:=Tryz.isAgg30
 z55:=Tryz.sizeOf30
 v55:=Tryz.zeroValue30
 t66:=Tryz.underlying128
 a66:=Tryz.isAgg128
 z66:=Tryz.sizeOf128
 v66:=Tryz.zeroValue128
 t70:=Tryz.underlying132
 a70:=Tryz.isAgg132
 z70:=Tryz.sizeOf132
 v70:=Tryz.zeroValue132
 t76:=Tryz.underlying138
 a76:=Tryz.isAgg138
 z76:=Tryz.sizeOf138
 v76:=Tryz.zeroValue138
 t77:=Tryz.underlying139
 a77:=Tryz.isAgg139
 z77:=Tryz.sizeOf139
 v77:=Tryz.zeroValue139
def c2:CC where
 T:=[(3,⟨1,8,false,some [.int .i64 0],(.int .i64)⟩),
  (30,⟨1,8,false,some [.int .u64 0],(.int .u64)⟩),
  (67,⟨2,16,true,some [.int .i64 0,.int .u64 0],(.struct [(0,1,false),(1,1,false)])⟩),
  (82,⟨1,24,false,some [.nil],(.slice 3 15)⟩)]
 F:=[(43,267),(76,275),(77,273),(78,274),(105,276),(106,277)]
 eqT:=[]
 adds:=[]
def tab2:List (Nat×FuncId×RF):=[(267,43,r267),(275,76,r275),(273,77,r273),(274,78,r274),(276,105,r276),(277,106,r277)]
def tags2:List (Nat×TypeId×Nat):=[(15,3,1)]
theorem qk267:FnOk Tryz.prog c2 F (267,43,r267):=⟨Tryz.f43,[],[[0,1,2,3,5,6,7,8,4,9,10,11,12],[0,1,2,3,4,5,6,7,8,9,10,11,12],[],[]],Tryz.func43,by kernel_rfl,by kernel_rfl,by kernel_rfl⟩
theorem qk275:FnOk Tryz.prog c2 F (275,76,r275):=⟨Tryz.f76,[],[[3,6,7,8]],Tryz.func76,by kernel_rfl,by kernel_rfl,by kernel_rfl⟩
theorem qk273:FnOk Tryz.prog c2 F (273,77,r273):=⟨Tryz.f77,[],[],Tryz.func77,by kernel_rfl,by kernel_rfl,by kernel_rfl⟩
theorem qk274:FnOk Tryz.prog c2 F (274,78,r274):=⟨Tryz.f78,[],[],Tryz.func78,by kernel_rfl,by kernel_rfl,by kernel_rfl⟩
theorem qk276:FnOk Tryz.prog c2 F (276,105,r276):=⟨Tryz.f105,[],[],Tryz.func105,by kernel_rfl,by kernel_rfl,by kernel_rfl⟩
theorem qk277:FnOk Tryz.prog c2 F (277,106,r277):=⟨Tryz.f106,[],[],Tryz.func106,by kernel_rfl,by kernel_rfl,by kernel_rfl⟩
theorem okT2:(c2.T.all fun x=>x.2.okB Tryz.prog (mkCfg Tryz.prog tab2 tags2).ET (mkCfg Tryz.prog tab2 tags2).SZ x.1)=true:=by kernel_rfl
theorem okF2:(c2.F.all fun x=>decide ((lk tab2 x.2).map (·.1)=some x.1))=true:=by kernel_rfl
theorem okTab2:AllT (FnOk Tryz.prog c2 F) tab2:=⟨qk267,qk275,qk273,qk274,qk276,qk277,trivial⟩
theorem prog2 (O:Nat):ProgOk ((mkCfg Tryz.prog tab2 tags2).at O) c2 F (fun _ _ _=>none):=
 mkProg okT2 okF2 okTab2 ⟨⟩ trivial O
theorem cmpF (x y:Int×Int) (W:World):Calls Tryz.prog 43 #[.agg (val2 x).toArray,.agg (val2 y).toArray] W fun e w'=>e= .returned (.int .i64 (cmp2 x y))∧ ∃q os',w'=Sort.grow (W.drewN q) os':=
 fins_calls (prog2 0) (fid:=43) rfl inI13 inLibcmpCompareint inLibcmpCompareuint64 inLibcmpOrint inLibcmpisNaNint inLibcmpisNaNuint64 x y W
theorem p330:Z.DelT Tryz.prog (renD 44 3 4 44 24) 6 zv44 where
 mixed:=by kernel_rfl
 f45 := ⟨(Tryz.prog.funcs[44]?.map (·.name)).getD "", by kernel_rfl, by kernel_rfl⟩
 t3:=by kernel_rfl
 t4:=by kernel_rfl
 t22:=by kernel_rfl
 i23:=⟨inf44,(Option.some_get i44).symm,by kernel_rfl,by kernel_rfl,by decide,(Option.some_get z44).symm,List.all_eq_true.1 (show (zv44.cells.toList.all (·.oneCell'))=true from by kernel_rfl)⟩
theorem ok406:FnOk Tryz.prog c F (406,3,r406):=⟨Tryz.f3,[],[[3,16,18]],Tryz.func3,by kernel_rfl,by kernel_rfl,by kernel_rfl⟩
theorem ok144:FnOk Tryz.prog c F (144,5,r144):=⟨Tryz.f5,[],[],Tryz.func5,by kernel_rfl,by kernel_rfl,by kernel_rfl⟩
theorem ok384:FnOk Tryz.prog c F (384,6,r384):=⟨Tryz.f6,[],[[2,4,5,6,7,8]],Tryz.func6,by kernel_rfl,by kernel_rfl,by kernel_rfl⟩
theorem ok164:FnOk Tryz.prog c F (164,7,r164):=⟨Tryz.f7,[],[[4,5,16,17,18]],Tryz.func7,by kernel_rfl,by kernel_rfl,by kernel_rfl⟩
theorem ok312:FnOk Tryz.prog c F (312,8,r312):=⟨Tryz.f8,[11,12],[[9,10,2,3,5,0,1,4,6,7,8,11,12],[0,1,2,3,4,5,6,7,8,9,10,11,12],[11,12],[],[1,2,6,8,9,10,11,12,74,75,76],[0,1,2,3,4,5,6,7,8,9,10,11,12],[0,1,2,3,4,5,6,7,8,9,10,11,12],[],[],[1,2,6,8,9,11,12,98,99,100],[0,1,2,3,4,5,6,7,8,9,10],[0,1,2,3,4,5,6,7,8,9,10],[],[]],Tryz.func8,by kernel_rfl,by kernel_rfl,by kernel_rfl⟩
theorem ok311:FnOk Tryz.prog c F (311,9,r311):=⟨Tryz.f9,[],[[1,2,3,6,8,9,10],[5,6,7,0,1,2,3,4,8,9,10,11,12],[0,1,2,3,4,5,6,7,8,9,10,11,12],[],[],[3,6,0,1,2,4,5,7,8,9,10,11],[0,1,2,3,4,5,6,7,8,9,10,11],[],[],[0,1,2,3,4,5,6,7],[0,1,2,3,4,5,6,7],[],[]],Tryz.func9,by kernel_rfl,by kernel_rfl,by kernel_rfl⟩
theorem ok385:FnOk Tryz.prog c F (385,10,r385):=⟨Tryz.f10,[],[[2,3,5],[2,7,0,1,3,4,5,6,8,9,10,11],[0,1,2,3,4,5,6,7,8,9,10,11],[],[]],Tryz.func10,by kernel_rfl,by kernel_rfl,by kernel_rfl⟩
theorem ok365:FnOk Tryz.prog c F (365,11,r365):=⟨Tryz.f11,[],[[11,12,2,3,8,0,1,4,5,6,7,9,10,13,14],[0,1,2,3,4,5,11,12,13,6,7,8,9,10,14],[10],[]],Tryz.func11,by kernel_rfl,by kernel_rfl,by kernel_rfl⟩
theorem ok157:FnOk Tryz.prog c F (157,12,r157):=⟨Tryz.f12,[],[],Tryz.func12,by kernel_rfl,by kernel_rfl,by kernel_rfl⟩
theorem ok394:FnOk Tryz.prog c F (394,13,r394):=⟨Tryz.f13,[],[[2,3,5],[2,7,0,1,3,4,5,6,8,9,10],[0,1,2,3,4,5,6,7,8,9,10],[],[]],Tryz.func13,by kernel_rfl,by kernel_rfl,by kernel_rfl⟩
theorem ok194:FnOk Tryz.prog c F (194,21,r194):=⟨Tryz.f21,[31],[[0,3,4]],Tryz.func21,by kernel_rfl,by kernel_rfl,by kernel_rfl⟩
theorem ok392:FnOk Tryz.prog c F (392,22,r392):=⟨Tryz.f22,[],[[0,6,7,8]],Tryz.func22,by kernel_rfl,by kernel_rfl,by kernel_rfl⟩
theorem ok236:FnOk Tryz.prog c F (236,23,r236):=⟨Tryz.f23,[],[],Tryz.func23,by kernel_rfl,by kernel_rfl,by kernel_rfl⟩
theorem ok238:FnOk Tryz.prog c F (238,24,r238):=⟨Tryz.f24,[],[],Tryz.func24,by kernel_rfl,by kernel_rfl,by kernel_rfl⟩
theorem ok393:FnOk Tryz.prog c F (393,25,r393):=⟨Tryz.f25,[],[[0,3,4,5,6,7],[2,0,1,3,4,5,6,7],[0,1,2,3,4,5,6,7],[],[1,3]],Tryz.func25,by kernel_rfl,by kernel_rfl,by kernel_rfl⟩
theorem ok381:FnOk Tryz.prog c F (381,26,r381):=⟨Tryz.f26,[],[],Tryz.func26,by kernel_rfl,by kernel_rfl,by kernel_rfl⟩
theorem ok206:FnOk Tryz.prog c F (206,27,r206):=⟨Tryz.f27,[],[[1,26,27,28],[0,1,2,3,4,5,6,7,8,9,10,11,12,13,16,17,14,15,18,19,20,21,22,23,24,25],[0,1,2,3,4,5,6,7,8,9,10,11,12,13,14,15,16,17,18,19,20,21,22,23,24,25],[],[]],Tryz.func27,by kernel_rfl,by kernel_rfl,by kernel_rfl⟩
theorem ok209:FnOk Tryz.prog c F (209,28,r209):=⟨Tryz.f28,[],[[4,5,11,12,13]],Tryz.func28,by kernel_rfl,by kernel_rfl,by kernel_rfl⟩
theorem ok320:FnOk Tryz.prog c F (320,30,r320):=⟨Tryz.f30,[],[[2,3,12,13,14],[0,1,2,3,4,5,6,7],[0,1,2,3,4,5,6,7],[],[]],Tryz.func30,by kernel_rfl,by kernel_rfl,by kernel_rfl⟩
theorem ok212:FnOk Tryz.prog c F (212,31,r212):=⟨Tryz.f31,[3],[],Tryz.func31,by kernel_rfl,by kernel_rfl,by kernel_rfl⟩
theorem ok319:FnOk Tryz.prog c F (319,32,r319):=⟨Tryz.f32,[],[],Tryz.func32,by kernel_rfl,by kernel_rfl,by kernel_rfl⟩
theorem ok321:FnOk Tryz.prog c F (321,34,r321):=⟨Tryz.f34,[],[[1,2,4,10,11]],Tryz.func34,by kernel_rfl,by kernel_rfl,by kernel_rfl⟩
theorem ok211:FnOk Tryz.prog c F (211,35,r211):=⟨Tryz.f35,[],[[1,2,5]],Tryz.func35,by kernel_rfl,by kernel_rfl,by kernel_rfl⟩
theorem ok316:FnOk Tryz.prog c F (316,36,r316):=⟨Tryz.f36,[],[],Tryz.func36,by kernel_rfl,by kernel_rfl,by kernel_rfl⟩
theorem ok317:FnOk Tryz.prog c F (317,37,r317):=⟨Tryz.f37,[],[[1,2,3,4],[4,0,1,2,3,5,6,7,8,9,10,11],[0,1,2,3,4,5,6,7,8,9,10,11],[],[]],Tryz.func37,by kernel_rfl,by kernel_rfl,by kernel_rfl⟩
theorem ok333:FnOk Tryz.prog c F (333,38,r333):=⟨Tryz.f38,[],[[1,2,4,8,9,10],[6,0,1,2,3,4,5,7,8,9,10,11,12,13],[0,1,2,3,4,5,6,7,8,9,10,11,12,13],[],[],[1,2,4,8,9,11],[4,0,1,2,3,5,6,7,8,9,10],[0,1,2,3,4,5,6,7,8,9,10],[],[]],Tryz.func38,by kernel_rfl,by kernel_rfl,by kernel_rfl⟩
theorem ok228:FnOk Tryz.prog c F (228,39,r228):=⟨Tryz.f39,[],[[1,2,3,4]],Tryz.func39,by kernel_rfl,by kernel_rfl,by kernel_rfl⟩
theorem ok318:FnOk Tryz.prog c F (318,40,r318):=⟨Tryz.f40,[],[[1,4,5,6]],Tryz.func40,by kernel_rfl,by kernel_rfl,by kernel_rfl⟩
theorem ok213:FnOk Tryz.prog c F (213,41,r213):=⟨Tryz.f41,[4,5],[],Tryz.func41,by kernel_rfl,by kernel_rfl,by kernel_rfl⟩
theorem ok267:FnOk Tryz.prog c F (267,43,r267):=⟨Tryz.f43,[],[[0,1,2,3,5,6,7,8,4,9,10,11,12],[0,1,2,3,4,5,6,7,8,9,10,11,12],[],[]],Tryz.func43,by kernel_rfl,by kernel_rfl,by kernel_rfl⟩
theorem ok397:FnOk Tryz.prog c F (397,17,r397):=⟨Tryz.f17,[],[[2,3,5],[2,7,0,1,3,4,5,6,8,9,10],[0,1,2,3,4,5,6,7,8,9,10],[],[]],Tryz.func17,by kernel_rfl,by kernel_rfl,by kernel_rfl⟩
theorem ok396:FnOk Tryz.prog c F (396,48,r396):=⟨Tryz.f48,[],[[2,0,1,3,4,5,6,7,8,9,10],[0,1,2,3,4,5,6,7,8,9,10],[],[1,6],[1,3,0,2,4,5,6,7,8],[0,1,2,3,4,5,6,8,7],[],[0,2],[1,0,2,3,4,5,6,7,8,9],[0,1,2,3,4,5,6,9,7,8],[],[0,3]],Tryz.func48,by kernel_rfl,by kernel_rfl,by kernel_rfl⟩
theorem ok263:FnOk Tryz.prog c F (263,49,r263):=⟨Tryz.f49,[],[[0,1,5,6,2,3,4,7,8,9,10,11,12],[0,1,2,3,4,5,6,7,8,9,10,11,12],[],[],[0,1,4,5,2,3,6,7,8,9],[0,1,2,3,4,5,6,7,8,9],[],[],[0,1,2,5,6,3,4,7,8,9,10,11,12,13,14],[0,1,2,3,4,5,6,7,8,9,10,11,12,13,14],[],[]],Tryz.func49,by kernel_rfl,by kernel_rfl,by kernel_rfl⟩
theorem ok239:FnOk Tryz.prog c F (239,50,r239):=⟨Tryz.f50,[],[],Tryz.func50,by kernel_rfl,by kernel_rfl,by kernel_rfl⟩
theorem ok235:FnOk Tryz.prog c F (235,51,r235):=⟨Tryz.f51,[],[],Tryz.func51,by kernel_rfl,by kernel_rfl,by kernel_rfl⟩
theorem ok237:FnOk Tryz.prog c F (237,52,r237):=⟨Tryz.f52,[],[],Tryz.func52,by kernel_rfl,by kernel_rfl,by kernel_rfl⟩
theorem ok5:FnOk Tryz.prog c F (5,53,r5):=⟨Tryz.f53,[],[],Tryz.func53,by kernel_rfl,by kernel_rfl,by kernel_rfl⟩
theorem ok240:FnOk Tryz.prog c F (240,54,r240):=⟨Tryz.f54,[],[],Tryz.func54,by kernel_rfl,by kernel_rfl,by kernel_rfl⟩
theorem ok156:FnOk Tryz.prog c F (156,55,r156):=⟨Tryz.f55,[],[[1,3],[0,1,2,3,4,5,6,7,8,9,10,11,12,13,16,17,14,15,18,19,20,21,22,23,24,25],[0,1,2,3,4,5,6,7,8,9,10,11,12,13,14,15,16,17,18,19,20,21,22,23,24,25],[],[]],Tryz.func55,by kernel_rfl,by kernel_rfl,by kernel_rfl⟩
theorem ok243:FnOk Tryz.prog c F (243,56,r243):=⟨Tryz.f56,[],[[0,3,5],[0,1,2,3,4,5],[0,1,2,3,4,5],[],[]],Tryz.func56,by kernel_rfl,by kernel_rfl,by kernel_rfl⟩
theorem ok323:FnOk Tryz.prog c F (323,57,r323):=⟨Tryz.f57,[],[[1,2,4,6,7,8],[4,0,1,2,3,5,6,7,8,9,10],[0,1,2,3,4,5,6,7,8,9,10],[],[]],Tryz.func57,by kernel_rfl,by kernel_rfl,by kernel_rfl⟩
theorem ok324:FnOk Tryz.prog c F (324,58,r324):=⟨Tryz.f58,[],[[1,2,4,8,9],[4,0,1,2,3,5,6,7,8,9,10],[0,1,2,3,4,5,6,7,8,9,10],[],[]],Tryz.func58,by kernel_rfl,by kernel_rfl,by kernel_rfl⟩
theorem ok325:FnOk Tryz.prog c F (325,59,r325):=⟨Tryz.f59,[],[],Tryz.func59,by kernel_rfl,by kernel_rfl,by kernel_rfl⟩
theorem ok326:FnOk Tryz.prog c F (326,60,r326):=⟨Tryz.f60,[],[],Tryz.func60,by kernel_rfl,by kernel_rfl,by kernel_rfl⟩
theorem ok388:FnOk Tryz.prog c F (388,61,r388):=⟨Tryz.f61,[],[],Tryz.func61,by kernel_rfl,by kernel_rfl,by kernel_rfl⟩
theorem ok389:FnOk Tryz.prog c F (389,62,r389):=⟨Tryz.f62,[],[],Tryz.func62,by kernel_rfl,by kernel_rfl,by kernel_rfl⟩
theorem ok390:FnOk Tryz.prog c F (390,63,r390):=⟨Tryz.f63,[],[],Tryz.func63,by kernel_rfl,by kernel_rfl,by kernel_rfl⟩
theorem ok391:FnOk Tryz.prog c F (391,64,r391):=⟨Tryz.f64,[],[],Tryz.func64,by kernel_rfl,by kernel_rfl,by kernel_rfl⟩
theorem ok328:FnOk Tryz.prog c F (328,65,r328):=⟨Tryz.f65,[],[[1,2,5]],Tryz.func65,by kernel_rfl,by kernel_rfl,by kernel_rfl⟩
theorem ok374:FnOk Tryz.prog c F (374,66,r374):=⟨Tryz.f66,[],[[0,3,5,6,7],[0,1,2,4,5,6,3,7,8,9],[0,1,2,3,4,5,6,7,8,9],[],[]],Tryz.func66,by kernel_rfl,by kernel_rfl,by kernel_rfl⟩
theorem ok244:FnOk Tryz.prog c F (244,47,r244):=⟨Tryz.f47,[],[[1,46,47,48],[1,76,77,78],[0,1,2,3,4,5,6,7,8,9,10,11,12,13,14,15,16,17,18,19,20,23,24,21,22,25,26,27,28,29,30,31],[0,1,2,3,4,5,6,7,8,9,10,11,12,13,14,15,16,17,18,19,20,21,22,23,24,25,26,27,28,29,30,31],[],[]],Tryz.func47,by kernel_rfl,by kernel_rfl,by kernel_rfl⟩
theorem ok7:FnOk Tryz.prog c F (7,67,r7):=⟨Tryz.f67,[],[],Tryz.func67,by kernel_rfl,by kernel_rfl,by kernel_rfl⟩
theorem ok229:FnOk Tryz.prog c F (229,45,r229):=⟨Tryz.f45,[],[],Tryz.func45,by kernel_rfl,by kernel_rfl,by kernel_rfl⟩
theorem ok248:FnOk Tryz.prog c F (248,68,r248):=⟨Tryz.f68,[],[[0,1,7,8]],Tryz.func68,by kernel_rfl,by kernel_rfl,by kernel_rfl⟩
theorem ok247:FnOk Tryz.prog c F (247,69,r247):=⟨Tryz.f69,[],[],Tryz.func69,by kernel_rfl,by kernel_rfl,by kernel_rfl⟩
theorem ok259:FnOk Tryz.prog c F (259,72,r259):=⟨Tryz.f72,[],[[1,2,3,4],[4,0,1,2,3,5,6,7,8,9,10],[0,1,2,3,4,5,6,7,8,9,10],[],[]],Tryz.func72,by kernel_rfl,by kernel_rfl,by kernel_rfl⟩
theorem ok249:FnOk Tryz.prog c F (249,73,r249):=⟨Tryz.f73,[],[],Tryz.func73,by kernel_rfl,by kernel_rfl,by kernel_rfl⟩
theorem ok275:FnOk Tryz.prog c F (275,76,r275):=⟨Tryz.f76,[],[[3,6,7,8]],Tryz.func76,by kernel_rfl,by kernel_rfl,by kernel_rfl⟩
theorem ok273:FnOk Tryz.prog c F (273,77,r273):=⟨Tryz.f77,[],[],Tryz.func77,by kernel_rfl,by kernel_rfl,by kernel_rfl⟩
theorem ok274:FnOk Tryz.prog c F (274,78,r274):=⟨Tryz.f78,[],[],Tryz.func78,by kernel_rfl,by kernel_rfl,by kernel_rfl⟩
theorem ok271:FnOk Tryz.prog c F (271,84,r271):=⟨Tryz.f84,[],[],Tryz.func84,by kernel_rfl,by kernel_rfl,by kernel_rfl⟩
theorem ok364:FnOk Tryz.prog c F (364,85,r364):=⟨Tryz.f85,[],[[11,12,2,3,8,0,1,4,5,6,7,9,10,13,14],[0,1,2,3,4,5,11,12,13,6,7,8,9,10,14],[9],[],[2,3,6,8,10,11,12],[6,0,1,2,3,4,5,7,8,9,10,11,12,13],[0,1,2,3,4,5,6,7,8,9,10,11,12,13],[],[],[2,3,6,8,10,11,13],[4,0,1,2,3,5,6,7,8,9],[0,1,2,3,4,5,6,7,8,9],[],[],[2,3,6,8,11,14,15],[4,0,1,2,3,5,6,7,8,9,10,11],[0,1,2,3,4,5,6,7,8,9,10,11],[],[]],Tryz.func85,by kernel_rfl,by kernel_rfl,by kernel_rfl⟩
theorem ok290:FnOk Tryz.prog c F (290,86,r290):=⟨Tryz.f86,[],[],Tryz.func86,by kernel_rfl,by kernel_rfl,by kernel_rfl⟩
theorem ok300:FnOk Tryz.prog c F (300,87,r300):=⟨Tryz.f87,[],[],Tryz.func87,by kernel_rfl,by kernel_rfl,by kernel_rfl⟩
theorem ok264:FnOk Tryz.prog c F (264,88,r264):=⟨Tryz.f88,[],[[0,3,4]],Tryz.func88,by kernel_rfl,by kernel_rfl,by kernel_rfl⟩
theorem ok204:FnOk Tryz.prog c F (204,89,r204):=⟨Tryz.f89,[],[[1,3],[0,1,2,3,4,5,6,7,8,9,10,11,12,13,14,15,16,17,18,19,20,23,24,21,22,25,26,27,28,29,30,31],[0,1,2,3,4,5,6,7,8,9,10,11,12,13,14,15,16,17,18,19,20,21,22,23,24,25,26,27,28,29,30,31],[],[],[1,5]],Tryz.func89,by kernel_rfl,by kernel_rfl,by kernel_rfl⟩
theorem ok241:FnOk Tryz.prog c F (241,90,r241):=⟨Tryz.f90,[],[[1,3],[0,1,2,5,6,3,4,7,8,9,10,11,12,13,14,15,16,17,18,19,20,21,22,23,24,25,26,27,28,29,30,31,32,33],[0,1,2,3,4,5,6,7,8,9,10,11,12,13,14,15,16,17,18,19,20,21,22,23,24,25,26,27,28,29,30,31,32,33],[],[]],Tryz.func90,by kernel_rfl,by kernel_rfl,by kernel_rfl⟩
theorem ok335:FnOk Tryz.prog c F (335,91,r335):=⟨Tryz.f91,[],[],Tryz.func91,by kernel_rfl,by kernel_rfl,by kernel_rfl⟩
theorem ok336:FnOk Tryz.prog c F (336,92,r336):=⟨Tryz.f92,[],[[3,4,5,6],[2,0,1,3,4,5,6,7,8],[0,1,2,3,4,5,6,7,8],[],[]],Tryz.func92,by kernel_rfl,by kernel_rfl,by kernel_rfl⟩
theorem ok242:FnOk Tryz.prog c F (242,93,r242):=⟨Tryz.f93,[],[],Tryz.func93,by kernel_rfl,by kernel_rfl,by kernel_rfl⟩
theorem ok266:FnOk Tryz.prog c F (266,80,r266):=⟨Tryz.f80,[],[],Tryz.func80,by kernel_rfl,by kernel_rfl,by kernel_rfl⟩
theorem ok265:FnOk Tryz.prog c F (265,83,r265):=⟨Tryz.f83,[],[[1,10,11,12],[0,1,2,3,4,5,6,7,8,9,10,11,12,13,14,15,16,17,18,19,20,21,22,23,24,25,26,27,30,31,28,29,32,33,34,35,36,37,38,39],[0,1,2,3,4,5,6,7,8,9,10,11,12,13,14,15,16,17,18,19,20,21,22,23,24,25,26,27,28,29,30,31,32,33,34,35,36,37,38,39],[],[]],Tryz.func83,by kernel_rfl,by kernel_rfl,by kernel_rfl⟩
theorem ok260:FnOk Tryz.prog c F (260,79,r260):=⟨Tryz.f79,[],[],Tryz.func79,by kernel_rfl,by kernel_rfl,by kernel_rfl⟩
theorem ok276:FnOk Tryz.prog c F (276,105,r276):=⟨Tryz.f105,[],[],Tryz.func105,by kernel_rfl,by kernel_rfl,by kernel_rfl⟩
theorem ok277:FnOk Tryz.prog c F (277,106,r277):=⟨Tryz.f106,[],[],Tryz.func106,by kernel_rfl,by kernel_rfl,by kernel_rfl⟩
theorem ok210:FnOk Tryz.prog c F (210,116,r210):=⟨Tryz.f116,[],[[1,2,3,7]],Tryz.func116,by kernel_rfl,by kernel_rfl,by kernel_rfl⟩
theorem ok272:FnOk Tryz.prog c F (272,107,r272):=⟨Tryz.f107,[],[[0,3,7,8],[1,2,3,0,4,5],[0,1,2,3,4,5],[],[]],Tryz.func107,by kernel_rfl,by kernel_rfl,by kernel_rfl⟩
theorem okT:(c.T.all fun x=>x.2.okB Tryz.prog (mkCfgZ Tryz.prog tab ptab tags).ET (mkCfgZ Tryz.prog tab ptab tags).SZ x.1)=true:=by kernel_rfl
theorem okF:(c.F.all fun x=>decide ((mkCfgZ Tryz.prog tab ptab tags).G x.2=some x.1))=true:=by kernel_rfl
theorem okTab:AllT (FnOk Tryz.prog c F) tab:=⟨ok406,ok144,ok384,ok164,ok312,ok311,ok385,ok365,ok157,ok394,ok194,ok392,ok236,ok238,ok393,ok381,ok206,ok209,ok320,ok212,ok319,ok321,ok211,ok316,ok317,ok333,ok228,ok318,ok213,ok267,ok397,ok396,ok263,ok239,ok235,ok237,ok5,ok240,ok156,ok243,ok323,ok324,ok325,ok326,ok388,ok389,ok390,ok391,ok328,ok374,ok244,ok7,ok229,ok248,ok247,ok259,ok249,ok275,ok273,ok274,ok271,ok364,ok290,ok300,ok264,ok204,ok241,ok335,ok336,ok242,ok266,ok265,ok260,ok276,ok277,ok210,ok272,trivial⟩
theorem okP:AllT (PFn Tryz.prog F) ptab:=⟨⟨⟨Tryz.f33,Tryz.func33,by kernel_rfl,by kernel_rfl⟩,rfl,step_ins _ _⟩,⟨⟨Tryz.f42,Tryz.func42,by kernel_rfl,by kernel_rfl⟩,rfl,step_sort _ _⟩,⟨⟨Tryz.f44,Tryz.func44,by kernel_rfl,by kernel_rfl⟩,rfl,step_del _⟩,trivial⟩
theorem prog (O:Nat):ProgOk ((mkCfgZ Tryz.prog tab ptab tags).at O) c F (primZ ptab):=
 mkProgZ okT okF okTab okP ⟨⟨Tryz.f29,Tryz.func29,by kernel_rfl,by kernel_rfl,by kernel_rfl,by kernel_rfl⟩,trivial⟩ ⟨⟨by kernel_rfl,by kernel_rfl,by kernel_rfl⟩,⟨by kernel_rfl,by kernel_rfl,by kernel_rfl⟩,trivial⟩ O ⟨ins_ok (ρ:=renI 33 70 71 3 4 44 24) (k:=6) rfl rfl p332,sort_sound (ρ:=(renS [(6,42),(14,74),(15,75),(20,95),(21,96),(22,97),(23,98),(24,99),(25,100),(26,101),(27,102),(28,103),(29,104),(46,118),(47,119),(48,120),(49,121),(50,122),(57,132)] [(0,0),(3,3),(4,4),(5,5),(9,9),(22,42),(24,67),(25,74),(39,101),(45,116),(46,117),(50,106),(53,123),(55,30),(66,128),(70,132),(76,138),(77,139)])) (g:=43) rfl p375 Tryz.isAgg67 Tryz.sizeOf67 rfl (fun args w=>enter_run (prog2 0).cc (g:=267) rfl args) cmpF,del_ok (ρ:=renD 44 3 4 44 24) (k:=6) rfl rfl p330,trivial⟩
theorem pr332:PrimAt F (primZ ptab) 332 (insF 16 80):=primAt (ptab:=ptab) (n:=332) (x:=(33,(insF 16 80))) rfl rfl
theorem pr375:PrimAt F (primZ ptab) 375 (sortF 9 267):=primAt (ptab:=ptab) (n:=375) (x:=(42,(sortF 9 267))) rfl rfl
theorem pr330:PrimAt F (primZ ptab) 330 (delF 16):=primAt (ptab:=ptab) (n:=330) (x:=(44,(delF 16))) rfl rfl
end Go.Proofs.YthofpopafchelaaGreat.A.Shards
namespace Go.Proofs.YthofpopafchelaaGreat.A
open Go
set_option linter.unusedSimpArgs false
set_option linter.unusedVariables false
section
variable {F:Nat→Option RF} {Z:CallF} {g h:Heap}
set_option maxHeartbeats 4000000 in
set_option maxRecDepth 8000 in
theorem shards_turn (hLSh:Has F tLShard) (hLB:Has F tLBook) {gr sn gr' sn':Int} {z y:Cell} {xs ys:List Shard} {p q:List Nat} (w:SlR 16 Shard.RI h z xs p) (v:SlR 16 Shard.RI h y ys q)
 (hy:ys=xs.map (Shard.renew (sn+2))) (hs:0≤sn∧sn≤100) {i:Nat} (hi:i<xs.length):
 loop F Z [3,16,18] r406L0 ⟨[(18,.c (.int .i64 (i:Nat)))],[(3,3,0),(16,16,0)],[(3,[.int .i64 gr,.int .i64 sn,z]),(16,[.int .i64 gr',.int .i64 sn',y])],h⟩=
  loop F Z [3,16,18] r406L0 ⟨[(18,.c (.int .i64 ((i+1:Nat):Int)))],[(3,3,0),(16,16,0)],[(3,[.int .i64 gr,.int .i64 sn,z]),(16,[.int .i64 gr',.int .i64 sn',y])],h⟩:=by
 have hle:=w.le2
 have hlen:ys.length=xs.length:=by rw[hy,List.length_map]
 have hi':i<ys.length:=by omega
 have hlt:(i:Int)<xs.length:=by omega
 have hws:=wrapS i (by omega)
 have hw2:IntKind.i64.wrap (sn+2)=sn+2:=wrapI _ (by omega) (by omega)
 have hli:=w.idx hi
 have hli':=v.idx hi'
 have hwl:=w.len
 obtain ⟨r,f,hld,hr,_⟩:=w.one hi
 obtain ⟨r',f',hld',hr',_⟩:=v.one hi'
 obtain ⟨l1,l2,l3⟩:=Shard.lenI hr
 obtain ⟨l1',l2',l3'⟩:=Shard.lenI hr'
 have hyi:ys[i]=Shard.renew (sn+2) xs[i]:=by simp only[hy,List.getElem_map]
 have e0:=sameShard_r (Z:=Z) (h:=h) hLSh hLB hr hr'
 obtain ⟨x1,p1,x2,p2,rfl,rfl,u1,u2⟩:=hr
 have e1:=sameShard_r (Z:=Z) (h:=h) (t:={xs[i] with epoch:=sn+2}) hLSh hLB ⟨x1,p1,x2,p2,rfl,rfl,u1,u2⟩ hr'
 rw[hyi] at e0 e1
 simp only at e1
 clear w v u1 u2 hr' hyi hy
 generalize xs[i]=x at *
 obtain ⟨lo,hi2,st,ep,bk,fi⟩:=x
 rw[loop_run]
 conv in (codeF _ _ r406L0 _)=>unfold r406L0
 by_cases h0:st=0
 ·subst h0
  have hd:decide ((⟨lo,hi2,0,sn+2,bk,fi⟩:Shard)=Shard.renew (sn+2) ⟨lo,hi2,0,ep,bk,fi⟩)=true:=by simp[Shard.renew]
  rw[hd] at e1
  simp only at hld hld' l1 l2 l3 e1
  simp only[rn,RO.dst,lk,drop,Nat.reduceBEq,Nat.reduceAdd,Nat.reduceLeDiff,↓reduceIte,reduceCtorEq,List.replicate_succ,List.replicate_zero,fills,and_self,List.set_cons_zero,List.set_cons_succ,Nat.reduceLT,Nat.zero_lt_succ,Nat.zero_lt_one,hwl,hlt,hli,hli',hld,hld',l1',l2',l3',l1,l2,l3,hw2,beq_self_eq_true,Int.reduceBEq,e1,hws]
 ·have hb:(st==0)=false:=by simpa using h0
  have hd:decide ((⟨lo,hi2,st,ep,bk,fi⟩:Shard)=Shard.renew (sn+2) ⟨lo,hi2,st,ep,bk,fi⟩)=true:=by simp[Shard.renew,hb]
  rw[hd] at e0
  simp only at hld hld' l1 l2 l3 e0
  simp only[rn,RO.dst,lk,drop,Nat.reduceBEq,Nat.reduceAdd,Nat.reduceLeDiff,↓reduceIte,reduceCtorEq,List.replicate_succ,List.replicate_zero,fills,and_self,List.set_cons_zero,List.set_cons_succ,Nat.reduceLT,Nat.zero_lt_succ,Nat.zero_lt_one,hwl,hlt,hli,hli',hld,hld',l1',l2',l3',l1,l2,l3,hw2,hb,e0,hws]
set_option maxHeartbeats 4000000 in
set_option maxRecDepth 8000 in
theorem law_Shards (hI10:Has F tI10) (hI11:Has F tI11) (hI13:Has F tI13) (hLBook:Has F tLBook) (hLShard:Has F tLShard) (hLStore:Has F tLStore) (hLaws:Has F tLaws) (hLibcmpCompareint:Has F tLibcmpCompareint) (hLibcmpCompareuint64:Has F tLibcmpCompareuint64) (hLibcmpOrint:Has F tLibcmpOrint) (hLibcmpisNaNint:Has F tLibcmpisNaNint) (hLibcmpisNaNuint64:Has F tLibcmpisNaNuint64) (hLibslicesContainsimplFinimplFin:Has F tLibslicesContainsimplFinimplFin) (hLibslicesIndexFuncimplShardimplShard:Has F tLibslicesIndexFuncimplShardimplShard) (hLibslicesIndeximplFinimplFin:Has F tLibslicesIndeximplFinimplFin) (hS01d:Has F tS01d) (hS10:Has F tS10) (hS11:Has F tS11) (hS13:Has F tS13) (hWFnShards:Has F tWFnShards) (pr330:PrimAt F Z 330 (delF 16)) (pr332:PrimAt F Z 332 (insF 16 80)) (pr375:PrimAt F Z 375 (sortF 9 267))
 (h:Heap) (avs:List V) (hfl:h.floor=h.next) (w:ArgsWf h 8 [shUint8S] avs): ∃h',call F Z 406 avs h=some (.c (.bool true),h'):=by
 obtain ⟨x,_,rfl,xw,w1⟩:=ArgsWf.slice w
 obtain ⟨code,v,hby⟩:=Wf.areBytes xw
 obtain rfl:=w1.nil
 have f0:h.floor≤h.next:=by omega
 have k:KI F:=⟨hI10,hI11,hI13,hLibcmpCompareint,hLibcmpCompareuint64,hLibcmpOrint,hLibcmpisNaNint,hLibcmpisNaNuint64,hLibslicesIndeximplFinimplFin,hLibslicesContainsimplFinimplFin⟩
 have ks:KS F:=⟨hS01d,hS10,hS13⟩
 rw[call_run F Z (hWFnShards.lk (g:=406) rfl) _ _ rfl]
 have hb:=big_run (Z:=Z) hLaws v
 by_cases hbig:(code.length:Int)>1048576
 ·rw[decide_eq_true hbig] at hb
  simp only[rn,RO.dst,lk,drop,Nat.reduceBEq,Nat.reduceAdd,Nat.reduceLeDiff,↓reduceIte,reduceCtorEq,hb]
  exact ⟨_,rfl⟩
 rw[decide_eq_false hbig] at hb
 obtain ⟨s,qs,cs,y,g0,fp,fy,e0,o0,v0,_,lq,_,sg,_,sn1,sn2,_,_,okqs,hql⟩:=DrawRightStore_c (Z:=Z) ks hS11 f0 v
 -- the id
 obtain ⟨a,ha,hid⟩: ∃a:Int,(0≤a∧a≤18446744073709551615)∧(if h0:0<qs.length then a=qs[0].id else a=50):=by
  by_cases h0:0<qs.length
  ·exact ⟨qs[0].id,(okqs _ (List.getElem_mem h0)).id,by simp[h0]⟩
  ·exact ⟨50,by omega,by simp[h0]⟩
 have hw1:IntKind.i64.wrap (s.seen+1)=s.seen+1:=wrapI _ (by omega) (by omega)
 have hw2:IntKind.i64.wrap (s.seen+2)=s.seen+2:=wrapI _ (by omega) (by omega)
 have t0:storeTotal s=(wHi s.money,wLo s.money):=by unfold storeTotal;rw[(Store.good_iff _).2 sg.good];rfl
 obtain ⟨g1,e1,o1⟩:=StoreTotal_c (Z:=Z) k (o0.le f0) v0 sg.ok
 rw[t0] at e1
 have v1:=Store.okI.on v0 o1
 have p1:=o0.trans o1
 obtain ⟨c2,g2,f2,e2,o2,u2,_⟩:=CutShard_c (Z:=Z) k hLibslicesIndexFuncimplShardimplShard pr332 (p1.le f0) v1 a (s.seen+1) ha sg.ok sg.small
 have v2:=Store.okI.on v1 o2
 have p2:=p1.trans o2
 obtain ⟨c3,g3,f3,e3,o3,u3,_⟩:=CutShard_c (Z:=Z) k hLibslicesIndexFuncimplShardimplShard pr332 (p2.le f0) v2 a s.seen ha sg.ok sg.small
 have v3:=Store.okI.on v2 o3
 have p3:=p2.trans o3
 have hno:cutShard s a s.seen=(s,false):=by
  apply cut_no
  cases hc:s.next s.seen with
  | false=>rfl
  | true=>have:=(Store.next_iff s _).1 hc;omega
 rw[hno] at e3 u3
 simp only at e3 u3
 obtain ⟨c4,g4,f4,e4,o4,u4,_⟩:=sCutShard_c (Z:=Z) ks (p3.le f0) v3 a (s.seen+1) ha sg.ok sg.small
 have v4:=Store.okI.on v3 o4
 have p4:=p3.trans o4
 have u34:=Store.okI.on u3 o4
 have es:=sameStore_r (Z:=Z) hLStore hLShard hLBook u34 v4
 simp only[decide_true] at es
 obtain ⟨k2,k2',k2''⟩:=Store.lenI u2
 obtain ⟨k3,k3',k3''⟩:=Store.lenI u3
 obtain ⟨k4,k4',k4''⟩:=Store.lenI u4
 have u24:=Store.okI.on (Store.okI.on u2 o3) o4
 have lq0:=lq.on (Fl.ok _) o1
 have hleq:=lq.le2
 have hlenq:=lq.len
 cases hok:(cutShard s a (s.seen+1)).2 with
 | false=>
   have hsame:=cut_same hok
   have ec:=sameStore_r (Z:=Z) hLStore hLShard hLBook u24 v4
   rw[hsame] at ec
   simp only[decide_true] at ec
   rw[hok] at e2 e4
   obtain ⟨z0,q0,rfl,rfl,w0⟩:=v0
   by_cases h0:0<qs.length
   ·rw[dif_pos h0] at hid
    have hlt:((qs.length:Nat):Int)>0:=by omega
    have hi0:=lq.idx h0
    have hl0:=lq.load h0
    simp only[show ((0:Nat):Int)=0 from rfl] at hi0
    obtain ⟨q,hq⟩: ∃q,qs[0]=q:=⟨_,rfl⟩
    rw[hq] at hl0 hid
    obtain ⟨qe,qo,qi,qa,qt⟩:=q
    simp only[Request.enc] at hl0 hid
    subst hid
    simp only[rn,RO.dst,lk,drop,Nat.reduceBEq,Nat.reduceAdd,Nat.reduceLeDiff,↓reduceIte,reduceCtorEq,List.replicate_succ,List.replicate_zero,fills,and_self,List.set_cons_zero,List.set_cons_succ,Nat.reduceLT,Nat.zero_lt_succ,Nat.zero_lt_one,hb,e0,hlenq,hlt,hi0,hl0,e1,hw1,e2,k2,k2',k2'',e3,k3,k3',k3'',e4,k4,k4',k4'',es,ec]
    exact ⟨_,rfl⟩
   ·rw[dif_neg h0] at hid
    subst hid
    have hlt: ¬((qs.length:Nat):Int)>0:=by omega
    simp only[rn,RO.dst,lk,drop,Nat.reduceBEq,Nat.reduceAdd,Nat.reduceLeDiff,↓reduceIte,reduceCtorEq,List.replicate_succ,List.replicate_zero,fills,and_self,List.set_cons_zero,List.set_cons_succ,Nat.reduceLT,Nat.zero_lt_succ,Nat.zero_lt_one,hb,e0,hlenq,hlt,e1,hw1,e2,k2,k2',k2'',e3,k3,k3',k3'',e4,k4,k4',k4'',es,ec]
    exact ⟨_,rfl⟩
 | true=>
   obtain ⟨m1,m2,m3,m4⟩:=cut_back sg.good (by omega) hok
   have sgc:=sg.cut ha (s.seen+1)
   have t1:storeTotal (cutShard s a (s.seen+1)).1=(wHi s.money,wLo s.money):=by unfold storeTotal;rw[(Store.good_iff _).2 sgc.good,←m1];rfl
   obtain ⟨g5,e5,o5⟩:=StoreTotal_c (Z:=Z) k (p4.le f0) u24 sgc.ok
   rw[t1] at e5
   have p5:=p4.trans o5
   have u25:=Store.okI.on u24 o5
   obtain ⟨c6,g6,f6,e6,o6,u6,_⟩:=JoinShard_c (Z:=Z) k hLibslicesIndexFuncimplShardimplShard pr330 pr375 (p5.le f0) u25 a (s.seen+2) ha sgc.ok sgc.small
   have p6:=p5.trans o6
   have u26:=Store.okI.on u25 o6
   obtain ⟨g7,e7,o7⟩:=StoreOk_c (Z:=Z) k (p6.le f0) u26 sgc.ok
   rw[(Store.good_iff _).2 sgc.good] at e7
   have sgj:SGood (s.renew (s.seen+2)):=by
    have:=sgc.join a (s.seen+2)
    rw[m4] at this
    exact this
   rw[m4] at e6 u6
   simp only at e6 u6
   have p7:=p6.trans o7
   have v7:=Store.okI.on (Store.okI.on (Store.okI.on v4 o5) o6) o7
   have u27:=Store.okI.on u26 o7
   have u67:=Store.okI.on u6 o7
   obtain ⟨k6,k6',k6''⟩:=Store.lenI u6
   obtain ⟨g8,e8,_⟩:=StoreOk_c (Z:=Z) k (p7.le f0) u67 sgj.ok
   rw[(Store.good_iff _).2 sgj.good] at e8
   rw[hok] at e2 e4
   obtain ⟨z0,q0,rfl,rfl,w0⟩:=v0
   obtain ⟨z7,q7,hz7,_,w7⟩:=v7
   obtain ⟨y7,r7,rfl,rfl,x7⟩:=u67
   obtain ⟨y2,r2,rfl,rfl,x2⟩:=u27
   simp only[List.cons.injEq,and_true,true_and] at hz7
   subst hz7
   have x6:SlR 16 Shard.RI g7 y2 (cutShard s a (s.seen+1)).1.shards _:=x2
   have hc1:=x2.len
   have hc2:=w7.len
   have hc3:=x7.len
   have hcl:((cutShard s a (s.seen+1)).1.shards.length:Int)=(s.shards.length:Int)+1:=by omega
   have hw3:IntKind.i64.wrap ((s.shards.length:Int)+1)=(s.shards.length:Int)+1:=wrapI _ (by have:=sg.good.len;omega) (by have:=sg.good.len;omega)
   have hjl:((s.renew (s.seen+2)).shards.length:Int)=(s.shards.length:Int):=by simp[Store.renew]
   rw[hcl] at hc1
   rw[hjl] at hc3
   rw[m3] at e2 e5 e6 e7
   have lp:=loop_goesF (F:=F) (Z:=Z) (live:=[3,16,18]) (b:=r406L0) s.shards.length (fun i=>⟨[(18,.c (.int .i64 (i:Nat)))],[(3,3,0),(16,16,0)],[(3,[.int .i64 s.group,.int .i64 s.seen,z0]),(16,[.int .i64 (s.renew (s.seen+2)).group,.int .i64 (s.renew (s.seen+2)).seen,y7])],g7⟩) (fun i hi=>
    shards_turn hLShard hLBook w7 x7 rfl ⟨by omega,by omega⟩ hi)
   simp only[show ((0:Nat):Int)=0 from rfl] at lp
   have hend: ¬((s.shards.length:Nat):Int)<s.shards.length:=by omega
   by_cases h0:0<qs.length
   ·rw[dif_pos h0] at hid
    have hlt:((qs.length:Nat):Int)>0:=by omega
    have hi0:=lq.idx h0
    have hl0:=lq.load h0
    simp only[show ((0:Nat):Int)=0 from rfl] at hi0
    obtain ⟨q,hq⟩: ∃q,qs[0]=q:=⟨_,rfl⟩
    rw[hq] at hl0 hid
    obtain ⟨qe,qo,qi,qa,qt⟩:=q
    simp only[Request.enc] at hl0 hid
    subst hid
    simp only[rn,RO.dst,lk,drop,Nat.reduceBEq,Nat.reduceAdd,Nat.reduceLeDiff,↓reduceIte,reduceCtorEq,List.replicate_succ,List.replicate_zero,fills,and_self,List.set_cons_zero,List.set_cons_succ,Nat.reduceLT,Nat.zero_lt_succ,Nat.zero_lt_one,hb,e0,hlenq,hlt,hi0,hl0,e1,hw1,hw2,e2,k2,k2',k2'',e3,k3,k3',k3'',e4,k4,k4',k4'',es,e5,e6,k6,k6',k6'',bne_self_eq_false,e7,hc1,hc2,hc3,hw3,lp]
    rw[loop_run]
    conv in (codeF _ _ r406L0 _)=>unfold r406L0
    simp only[rn,RO.dst,lk,drop,Nat.reduceBEq,Nat.reduceAdd,Nat.reduceLeDiff,↓reduceIte,reduceCtorEq,hc2,hend,e8]
    exact ⟨_,rfl⟩
   ·rw[dif_neg h0] at hid
    subst hid
    have hlt: ¬((qs.length:Nat):Int)>0:=by omega
    simp only[rn,RO.dst,lk,drop,Nat.reduceBEq,Nat.reduceAdd,Nat.reduceLeDiff,↓reduceIte,reduceCtorEq,List.replicate_succ,List.replicate_zero,fills,and_self,List.set_cons_zero,List.set_cons_succ,Nat.reduceLT,Nat.zero_lt_succ,Nat.zero_lt_one,hb,e0,hlenq,hlt,e1,hw1,hw2,e2,k2,k2',k2'',e3,k3,k3',k3'',e4,k4,k4',k4'',es,e5,e6,k6,k6',k6'',bne_self_eq_false,e7,hc1,hc2,hc3,hw3,lp]
    rw[loop_run]
    conv in (codeF _ _ r406L0 _)=>unfold r406L0
    simp only[rn,RO.dst,lk,drop,Nat.reduceBEq,Nat.reduceAdd,Nat.reduceLeDiff,↓reduceIte,reduceCtorEq,hc2,hend,e8]
    exact ⟨_,rfl⟩
end
end Go.Proofs.YthofpopafchelaaGreat.A
namespace Go.Proofs.YthofpopafchelaaGreat.A.Shards
open Go Go.ChangeShapes Go.WideShapes Go.ChangeAt Go.RowKit
theorem own:ownKnob Tryz.prog.godebug=none:=by kernel_rfl
set_option maxRecDepth 100000 in
theorem lifted (os:Os) (started:os.Started) (H:Type) (enc:TypeId×Value→H):
 ReturnsInHanded {} Tryz.checked os 3 .any (Rows.fnShardsSpec.pre6 enc Tryz.prog Tryz.f3 Rows.fnShardsRow.domain false) (Rows.fnShardsSpec.post enc Tryz.prog Tryz.f3 false true false false):=by
 refine returnsInHanded_of_change_sized (C:=Tryz.checked) own started (by kernel_rfl) Tryz.func3
  (ChangeSpec.witness6 (enc:=enc) (C:=Tryz.checked) false ⟨#[],#[.slice none 0 0],[]⟩ 8 (by kernel_rfl) (by kernel_rfl) (by kernel_rfl) (by kernel_rfl)) ?_
 intro W base args ds gs before hval hW _ _ _
 have hW':=hW
 obtain ⟨p,q,hA,hV,rfl,hfz,hnd⟩:=hW
 obtain ⟨rfl,rfl⟩:=trodVars_none hV
 have r0:DataW.TrodAll enc Tryz.prog W 0 (fun _=>true) true [22] args.toList ds p:=hA
 obtain ⟨_,_,d0,_,_,_,_,rfl,_,_,r1⟩:=trodAll_cons r0
 obtain ⟨_,rfl,_⟩:=trodAll_nil r1
 refine (law_calls (ts:=[22]) (ss:=[shUint8S]) prog (show (mkCfgZ Tryz.prog tab ptab tags).G 406=some 3 from by kernel_rfl) ⟨show shIs Tryz.prog (mkCfgZ Tryz.prog tab ptab tags).ET (mkCfgZ Tryz.prog tab ptab tags).SZ 8 22 shUint8S=true from by kernel_rfl,trivial⟩ (law_Shards inI10 inI11 inI13 inLBook inLShard inLStore inLaws inLibcmpCompareint inLibcmpCompareuint64 inLibcmpOrint inLibcmpisNaNint inLibcmpisNaNuint64 inLibslicesContainsimplFinimplFin inLibslicesIndexFuncimplShardimplShard inLibslicesIndeximplFinimplFin inS01d inS10 inS11 inS13 inWFnShards pr330 pr332 pr375) (fun j t v h1=>hval j t v (by rw[Tryz.params3];exact (List.getElem?_toArray ..).trans h1)) hA).mono fun e W' ⟨he,bel⟩=> ?_
 subst he
 exact ⟨_,rfl,_,_,_,[],_,[],hW',trodAll_mk1 (shut_bool Tryz.underlying4 _),trodAll_below (by kernel_rfl) bel _ _ _ _ (by kernel_rfl) hA hA.lt,rfl,bel.frame _,fun h=>by cases h⟩
theorem over:Rows.fnShardsRow.holds Tryz.pinned (OpenSpec.ofChange Rows.fnShardsSpec):=
 OpenClaim.holds_of_wide 3 Tryz.f3 rfl rfl rfl rfl rfl rfl rfl ⟨rfl,rfl,rfl,rfl,rfl⟩ rfl rfl rfl rfl rfl (by kernel_rfl) Tryz.func3 (by kernel_rfl)
  (of_decide_eq_true (by kernel_rfl)) (by unfold Func.isWrapper;first | (rw[if_pos (by decide+kernel)];kernel_rfl) | (rw[if_neg (by decide+kernel)];exact ⟨rfl,rfl⟩))
  (fun os started H enc _=>lifted os started H enc)
end Go.Proofs.YthofpopafchelaaGreat.A.Shards
namespace Go.Proofs.YthofpopafchelaaGreat
/-- The row. -/
theorem fnShards_holds:Rows.FnShardsSaid:=A.Shards.over
#print axioms fnShards_holds
end Go.Proofs.YthofpopafchelaaGreat
