/- FnInstalled: the statement, from the law of the abstract run. No condition. -/
import Derived.Test.YthofpopafchelaaGreatHCInstalled4
import Derived.Test.YthofpopafchelaaGreatB6
import Derived.Test.YthofpopafchelaaGreatZ7
import Derived.Test.YthofpopafchelaaGreatProg
import Derived.Test.YthofpopafchelaaGreatRows
import Derived.ProofKit
import Derived.OpenShut
import Derived.ShutString
import Derived.ChangeOld
import Derived.Below
import Derived.SizedLaws
namespace Go.Proofs.YthofpopafchelaaGreat.A.Installed
open Go
set_option maxRecDepth 100000
def c:CC where
 T:=[(3,⟨1,8,false,some [.int .i64 0],(.int .i64)⟩),
  (5,⟨1,1,false,some [.int .u8 0],(.int .u8)⟩),
  (22,⟨1,24,false,some [.nil],(.slice 5 19)⟩),
  (24,⟨1,24,false,some [.nil],(.slice 44 16)⟩),
  (26,⟨3,40,true,some [.int .i64 0,.int .i64 0,.nil],(.struct [(0,1,false),(1,1,false),(2,1,false)])⟩),
  (27,⟨1,24,false,some [.nil],(.slice 32 3)⟩),
  (30,⟨1,8,false,some [.int .u64 0],(.int .u64)⟩),
  (32,⟨5,40,true,some [.int .i64 0,.int .i64 0,.int .u64 0,.int .u64 0,.int .i64 0],(.struct [(0,1,false),(1,1,false),(2,1,false),(3,1,false),(4,1,false)])⟩),
  (39,⟨1,24,false,some [.nil],(.slice 64 11)⟩),
  (41,⟨1,24,true,some [.nil],(.struct [(0,1,false)])⟩),
  (42,⟨1,24,false,some [.nil],(.slice 67 9)⟩),
  (44,⟨6,80,true,some [.int .u64 0,.int .u64 0,.int .i64 0,.int .i64 0,.nil,.nil],(.struct [(0,1,false),(1,1,false),(2,1,false),(3,1,false),(4,1,true),(5,1,false)])⟩),
  (64,⟨5,40,true,some [.int .u64 0,.int .u64 0,.int .u64 0,.int .u64 0,.int .i64 0],(.struct [(0,1,false),(1,1,false),(2,1,false),(3,1,false),(4,1,false)])⟩),
  (67,⟨2,16,true,some [.int .i64 0,.int .u64 0],(.struct [(0,1,false),(1,1,false)])⟩),
  (78,⟨3,40,true,some [.nil,.int .i64 0,.int .i64 0],(.struct [(0,1,false),(1,1,false),(2,1,false)])⟩),
  (82,⟨1,24,false,some [.nil],(.slice 3 15)⟩),
  (101,⟨1,8,false,some [.int .u64 0],(.int .u64)⟩),
  (110,⟨1,24,false,some [.nil],(.slice 30 13)⟩)]
 F:=[(4,407),(5,144),(6,384),(9,311),(10,385),(12,157),(13,394),(14,177),(15,301),(16,190),(17,397),(18,382),(19,309),(20,298),(21,194),(22,392),(23,236),(24,238),(25,393),(26,381),(27,206),(30,320),(31,212),(32,319),(33,332),(34,321),(35,211),(36,316),(37,317),(38,333),(39,228),(40,318),(41,213),(42,375),(43,267),(44,330),(45,229),(46,387),(47,244),(48,396),(49,263),(50,239),(51,235),(52,237),(53,5),(54,240),(55,156),(56,243),(57,323),(58,324),(59,325),(60,326),(61,388),(62,389),(63,390),(64,391),(65,328),(66,374),(67,7),(68,248),(69,247),(72,259),(73,249),(76,275),(77,273),(78,274),(79,260),(80,266),(81,395),(82,342),(83,265),(84,271),(85,364),(86,290),(87,300),(88,264),(89,204),(90,241),(91,335),(92,336),(93,242),(105,276),(106,277),(107,272),(108,337),(109,338),(110,339),(111,340),(112,398),(113,399),(114,400),(115,401),(116,210),(123,343),(124,345),(125,344),(126,346),(127,347),(128,402),(129,403),(130,404),(131,405),(135,348)]
 eqT:=[(64,[.i .u64,.i .u64,.i .u64,.i .u64,.i .i64]),(67,[.i .i64,.i .u64])]
 adds:=[29]
def F:Nat→Option RF:=lk (tI10++tI11++tI13++tLBook++tLShard++tLStore++tLaws++tLibcmpCompareint++tLibcmpCompareuint64++tLibcmpOrint++tLibcmpisNaNint++tLibcmpisNaNuint64++tLibslicesContainsimplFinimplFin++tLibslicesIndexFuncimplShardimplShard++tLibslicesIndeximplFinimplFin++tS01d++tS10++tS11++tS13++tWFnInstalled)
def tab:List (Nat×FuncId×RF):=[(407,4,r407),(144,5,r144),(384,6,r384),(385,10,r385),(157,12,r157),(394,13,r394),(177,14,r177),(301,15,r301),(190,16,r190),(397,17,r397),(382,18,r382),(309,19,r309),(298,20,r298),(194,21,r194),(392,22,r392),(236,23,r236),(238,24,r238),(393,25,r393),(381,26,r381),(206,27,r206),(320,30,r320),(319,32,r319),(321,34,r321),(213,41,r213),(229,45,r229),(387,46,r387),(244,47,r244),(396,48,r396),(263,49,r263),(211,35,r211),(239,50,r239),(235,51,r235),(237,52,r237),(5,53,r5),(240,54,r240),(317,37,r317),(228,39,r228),(156,55,r156),(243,56,r243),(323,57,r323),(324,58,r324),(325,59,r325),(326,60,r326),(388,61,r388),(389,62,r389),(390,63,r390),(391,64,r391),(328,65,r328),(374,66,r374),(7,67,r7),(248,68,r248),(249,73,r249),(260,79,r260),(212,31,r212),(267,43,r267),(266,80,r266),(395,81,r395),(342,82,r342),(265,83,r265),(311,9,r311),(271,84,r271),(364,85,r364),(290,86,r290),(300,87,r300),(264,88,r264),(259,72,r259),(204,89,r204),(241,90,r241),(335,91,r335),(336,92,r336),(242,93,r242),(247,69,r247),(275,76,r275),(273,77,r273),(274,78,r274),(272,107,r272),(337,108,r337),(338,109,r338),(339,110,r339),(340,111,r340),(398,112,r398),(399,113,r399),(400,114,r400),(401,115,r401),(316,36,r316),(333,38,r333),(318,40,r318),(210,116,r210),(276,105,r276),(277,106,r277),(345,124,r345),(344,125,r344),(346,126,r346),(347,127,r347),(402,128,r402),(403,129,r403),(404,130,r404),(405,131,r405)]
def tags:List (Nat×TypeId×Nat):=[(3,32,5),(9,67,2),(11,64,5),(13,30,1),(15,3,1),(16,44,6),(19,5,1)]
theorem inI10:AllT (fun x=>F x.1=some x.2) tI10:=⟨rfl,rfl,rfl,rfl,rfl,rfl,rfl,rfl,rfl,rfl,rfl,rfl,rfl,rfl,rfl,rfl,rfl,rfl,rfl,trivial⟩
theorem inI11:AllT (fun x=>F x.1=some x.2) tI11:=⟨rfl,trivial⟩
theorem inI13:AllT (fun x=>F x.1=some x.2) tI13:=⟨rfl,rfl,rfl,rfl,rfl,rfl,rfl,rfl,rfl,rfl,rfl,rfl,rfl,rfl,rfl,rfl,rfl,rfl,rfl,trivial⟩
theorem inLBook:AllT (fun x=>F x.1=some x.2) tLBook:=⟨rfl,trivial⟩
theorem inLShard:AllT (fun x=>F x.1=some x.2) tLShard:=⟨rfl,trivial⟩
theorem inLStore:AllT (fun x=>F x.1=some x.2) tLStore:=⟨rfl,trivial⟩
theorem inLaws:AllT (fun x=>F x.1=some x.2) tLaws:=⟨rfl,rfl,trivial⟩
theorem inLibcmpCompareint:AllT (fun x=>F x.1=some x.2) tLibcmpCompareint:=⟨rfl,trivial⟩
theorem inLibcmpCompareuint64:AllT (fun x=>F x.1=some x.2) tLibcmpCompareuint64:=⟨rfl,trivial⟩
theorem inLibcmpOrint:AllT (fun x=>F x.1=some x.2) tLibcmpOrint:=⟨rfl,trivial⟩
theorem inLibcmpisNaNint:AllT (fun x=>F x.1=some x.2) tLibcmpisNaNint:=⟨rfl,trivial⟩
theorem inLibcmpisNaNuint64:AllT (fun x=>F x.1=some x.2) tLibcmpisNaNuint64:=⟨rfl,trivial⟩
theorem inLibslicesContainsimplFinimplFin:AllT (fun x=>F x.1=some x.2) tLibslicesContainsimplFinimplFin:=⟨rfl,trivial⟩
theorem inLibslicesIndexFuncimplShardimplShard:AllT (fun x=>F x.1=some x.2) tLibslicesIndexFuncimplShardimplShard:=⟨rfl,trivial⟩
theorem inLibslicesIndeximplFinimplFin:AllT (fun x=>F x.1=some x.2) tLibslicesIndeximplFinimplFin:=⟨rfl,trivial⟩
theorem inS01d:AllT (fun x=>F x.1=some x.2) tS01d:=⟨rfl,rfl,rfl,rfl,rfl,rfl,rfl,rfl,trivial⟩
theorem inS10:AllT (fun x=>F x.1=some x.2) tS10:=⟨rfl,rfl,rfl,rfl,rfl,rfl,rfl,rfl,rfl,rfl,rfl,rfl,rfl,rfl,rfl,trivial⟩
theorem inS11:AllT (fun x=>F x.1=some x.2) tS11:=⟨rfl,trivial⟩
theorem inS13:AllT (fun x=>F x.1=some x.2) tS13:=⟨rfl,rfl,rfl,rfl,rfl,rfl,rfl,rfl,rfl,rfl,rfl,rfl,rfl,rfl,rfl,rfl,rfl,rfl,rfl,rfl,rfl,trivial⟩
theorem inWFnInstalled:AllT (fun x=>F x.1=some x.2) tWFnInstalled:=⟨rfl,trivial⟩
open Go.Shelf
def ptab:List (Nat×FuncId×PrimF):=[(332,33,(insF 16 80)),(375,42,(sortF 9 267)),(330,44,(delF 16)),(343,123,(insF 11 40)),(348,135,(delF 11))]
theorem i44:(Tryz.prog.info? 44).isSome=true:=by kernel_rfl
noncomputable def inf44:TypeInfo:=(Tryz.prog.info? 44).get i44
theorem z44:inf44.zero.isSome=true:=by kernel_rfl
noncomputable def zv44:Value:=inf44.zero.get z44
theorem p332:Z.InsT Tryz.prog (renI 33 70 71 3 4 44 24) 6 80 zv44 where
 mixed:=by kernel_rfl
 f22 := ⟨(Tryz.prog.funcs[33]?.map (·.name)).getD "", by kernel_rfl, by kernel_rfl⟩
 f29:=⟨Tryz.f70,Tryz.func70,by kernel_rfl,by kernel_rfl,by kernel_rfl,by kernel_rfl⟩
 t3:=by kernel_rfl
 t4:=by kernel_rfl
 t24:=by kernel_rfl
 i9:=⟨inf44,(Option.some_get i44).symm,by kernel_rfl,by kernel_rfl,(Option.some_get z44).symm,by kernel_rfl,by decide⟩
theorem i67:(Tryz.prog.info? 67).isSome=true:=by kernel_rfl
noncomputable def inf67:TypeInfo:=(Tryz.prog.info? 67).get i67
theorem z67:inf67.zero.isSome=true:=by kernel_rfl
noncomputable def zv67:Value:=inf67.zero.get z67
theorem p375:SlLaysF0.n6 Tryz.prog (renS [(6,42),(14,74),(15,75),(20,95),(21,96),(22,97),(23,98),(24,99),(25,100),(26,101),(27,102),(28,103),(29,104),(46,118),(47,119),(48,120),(49,121),(50,122),(57,132)] [(0,0),(3,3),(4,4),(5,5),(9,9),(22,42),(24,67),(25,74),(39,101),(45,116),(46,117),(50,106),(53,123),(55,30),(66,128),(70,132),(76,138),(77,139)]) where
 mixed:=by kernel_rfl
 f6 := ⟨(Tryz.prog.funcs[42]?.map (·.name)).getD "", by kernel_rfl, by kernel_rfl⟩
 f14 := ⟨(Tryz.prog.funcs[74]?.map (·.name)).getD "", by kernel_rfl, by kernel_rfl⟩
 f15:=Tryz.func75.trans (congrArg some (by kernel_rfl))
 f20 := ⟨(Tryz.prog.funcs[95]?.map (·.name)).getD "", by kernel_rfl, by kernel_rfl⟩
 f21 := ⟨(Tryz.prog.funcs[96]?.map (·.name)).getD "", by kernel_rfl, by kernel_rfl⟩
 f22 := ⟨(Tryz.prog.funcs[97]?.map (·.name)).getD "", by kernel_rfl, by kernel_rfl⟩
 f23 := ⟨(Tryz.prog.funcs[98]?.map (·.name)).getD "", by kernel_rfl, by kernel_rfl⟩
 f24 := ⟨(Tryz.prog.funcs[99]?.map (·.name)).getD "", by kernel_rfl, by kernel_rfl⟩
 f25 := ⟨(Tryz.prog.funcs[100]?.map (·.name)).getD "", by kernel_rfl, by kernel_rfl⟩
 f26 := ⟨(Tryz.prog.funcs[101]?.map (·.name)).getD "", by kernel_rfl, by kernel_rfl⟩
 f27 := ⟨(Tryz.prog.funcs[102]?.map (·.name)).getD "", by kernel_rfl, by kernel_rfl⟩
 f28:=Tryz.func103.trans (congrArg some (by kernel_rfl))
 f29:=Tryz.func104.trans (congrArg some (by kernel_rfl))
 f46 := ⟨(Tryz.prog.funcs[118]?.map (·.name)).getD "", by kernel_rfl, by kernel_rfl⟩
 f47:=Tryz.func119.trans (congrArg some (by kernel_rfl))
 f48:=Tryz.func120.trans (congrArg some (by kernel_rfl))
 f49 := ⟨(Tryz.prog.funcs[121]?.map (·.name)).getD "", by kernel_rfl, by kernel_rfl⟩
 f50 := ⟨(Tryz.prog.funcs[122]?.map (·.name)).getD "", by kernel_rfl, by kernel_rfl⟩
 f57 := ⟨(Tryz.prog.funcs[132]?.map (·.name)).getD "", by kernel_rfl, by kernel_rfl⟩
 t0:=Tryz.underlying0
 a0:=Tryz.isAgg0
 z0:=Tryz.sizeOf0
 v0:=Tryz.zeroValue0
 t3:=Tryz.underlying3
 a3:=Tryz.isAgg3
 z3:=Tryz.sizeOf3
 v3:=Tryz.zeroValue3
 t4:=Tryz.underlying4
 a4:=Tryz.isAgg4
 z4:=Tryz.sizeOf4
 v4:=Tryz.zeroValue4
 t5:=Tryz.underlying5
 a5:=Tryz.isAgg5
 z5:=Tryz.sizeOf5
 v5:=Tryz.zeroValue5
 t9:=Tryz.underlying9
 a9:=Tryz.isAgg9
 z9:=Tryz.sizeOf9
 v9:=Tryz.zeroValue9
 t22:=Tryz.underlying42
 a22:=Tryz.isAgg42
 z22:=Tryz.sizeOf42
 v22:=Tryz.zeroValue42
 t25:=Tryz.underlying74
 a25:=Tryz.isAgg74
 z25:=Tryz.sizeOf74
 v25:=Tryz.zeroValue74
 t39:=Tryz.underlying101
 a39:=Tryz.isAgg101
 z39:=Tryz.sizeOf101
 v39:=Tryz.zeroValue101
 t45:=Tryz.underlying116
 a45:=Tryz.isAgg116
 z45:=Tryz.sizeOf116
 v45:=Tryz.zeroValue116
 t46:=Tryz.underlying117
 a46:=Tryz.isAgg117
 z46:=Tryz.sizeOf117
 v46:=Tryz.zeroValue117
 t50:=Tryz.underlying106
 a50:=Tryz.isAgg106
 z50:=Tryz.sizeOf106
 v50:=Tryz.zeroValue106
 t53:=Tryz.underlying123
 a53:=Tryz.isAgg123
 z53:=Tryz.sizeOf123
 v53:=Tryz.zeroValue123
 t55:=Tryz.underlying30
 a55:=Tryz.isAgg30
 z55:=Tryz.sizeOf30
 v55:=Tryz.zeroValue30
 t66:=Tryz.underlying128
 a66:=Tryz.isAgg128
 z66:=Tryz.sizeOf128
 v66:=Tryz.zeroValue128
 t70:=Tryz.underlying132
 a70:=Tryz.isAgg132
 z70:=Tryz.sizeOf132
 v70:=Tryz.zeroValue132
 t76:=Tryz.underlying138
 a76:=Tryz.isAgg138
 z76:=Tryz.sizeOf138
 v76:=Tryz.zeroValue138
 t77:=Tryz.underlying139
 a77:=Tryz.isAgg139
 z77:=Tryz.sizeOf139
 v77:=Tryz.zeroValue139
def c2:CC where
 T:=[(3,⟨1,8,false,some [.int .i64 0],(.int .i64)⟩),
  (30,⟨1,8,false,some [.int .u64 0],(.int .u64)⟩),
  (67,⟨2,16,true,some [.int .i64 0,.int .u64 0],(.struct [(0,1,false),(1,1,false)])⟩),
  (82,⟨1,24,false,some [.nil],(.slice 3 15)⟩)]
 F:=[(43,267),(76,275),(77,273),(78,274),(105,276),(106,277)]
 eqT:=[]
 adds:=[]
def tab2:List (Nat×FuncId×RF):=[(267,43,r267),(275,76,r275),(273,77,r273),(274,78,r274),(276,105,r276),(277,106,r277)]
def tags2:List (Nat×TypeId×Nat):=[(15,3,1)]
theorem qk267:FnOk Tryz.prog c2 F (267,43,r267):=⟨Tryz.f43,[],[[0,1,2,3,5,6,7,8,4,9,10,11,12],[0,1,2,3,4,5,6,7,8,9,10,11,12],[],[]],Tryz.func43,by kernel_rfl,by kernel_rfl,by kernel_rfl⟩
theorem qk275:FnOk Tryz.prog c2 F (275,76,r275):=⟨Tryz.f76,[],[[3,6,7,8]],Tryz.func76,by kernel_rfl,by kernel_rfl,by kernel_rfl⟩
theorem qk273:FnOk Tryz.prog c2 F (273,77,r273):=⟨Tryz.f77,[],[],Tryz.func77,by kernel_rfl,by kernel_rfl,by kernel_rfl⟩
theorem qk274:FnOk Tryz.prog c2 F (274,78,r274):=⟨Tryz.f78,[],[],Tryz.func78,by kernel_rfl,by kernel_rfl,by kernel_rfl⟩
theorem qk276:FnOk Tryz.prog c2 F (276,105,r276):=⟨Tryz.f105,[],[],Tryz.func105,by kernel_rfl,by kernel_rfl,by kernel_rfl⟩
theorem qk277:FnOk Tryz.prog c2 F (277,106,r277):=⟨Tryz.f106,[],[],Tryz.func106,by kernel_rfl,by kernel_rfl,by kernel_rfl⟩
theorem okT2:(c2.T.all fun x=>x.2.okB Tryz.prog (mkCfg Tryz.prog tab2 tags2).ET (mkCfg Tryz.prog tab2 tags2).SZ x.1)=true:=by kernel_rfl
theorem okF2:(c2.F.all fun x=>decide ((lk tab2 x.2).map (·.1)=some x.1))=true:=by kernel_rfl
theorem okTab2:AllT (FnOk Tryz.prog c2 F) tab2:=⟨qk267,qk275,qk273,qk274,qk276,qk277,trivial⟩
theorem prog2 (O:Nat):ProgOk ((mkCfg Tryz.prog tab2 tags2).at O) c2 F (fun _ _ _=>none):=
 mkProg okT2 okF2 okTab2 ⟨⟩ trivial O
theorem cmpF (x y:Int×Int) (W:World):Calls Tryz.prog 43 #[.agg (val2 x).toArray,.agg (val2 y).toArray] W fun e w'=>e= .returned (.int .i64 (cmp2 x y))∧ ∃q os',w'=Sort.grow (W.drewN q) os':=
 fins_calls (prog2 0) (fid:=43) rfl inI13 inLibcmpCompareint inLibcmpCompareuint64 inLibcmpOrint inLibcmpisNaNint inLibcmpisNaNuint64 x y W
theorem p330:Z.DelT Tryz.prog (renD 44 3 4 44 24) 6 zv44 where
 mixed:=by kernel_rfl
 f45 := ⟨(Tryz.prog.funcs[44]?.map (·.name)).getD "", by kernel_rfl, by kernel_rfl⟩
 t3:=by kernel_rfl
 t4:=by kernel_rfl
 t22:=by kernel_rfl
 i23:=⟨inf44,(Option.some_get i44).symm,by kernel_rfl,by kernel_rfl,by decide,(Option.some_get z44).symm,List.all_eq_true.1 (show (zv44.cells.toList.all (·.oneCell'))=true from by kernel_rfl)⟩
theorem i64:(Tryz.prog.info? 64).isSome=true:=by kernel_rfl
noncomputable def inf64:TypeInfo:=(Tryz.prog.info? 64).get i64
theorem z64:inf64.zero.isSome=true:=by kernel_rfl
noncomputable def zv64:Value:=inf64.zero.get z64
theorem p343:Z.InsT Tryz.prog (renI 123 133 134 3 4 64 39) 5 40 zv64 where
 mixed:=by kernel_rfl
 f22 := ⟨(Tryz.prog.funcs[123]?.map (·.name)).getD "", by kernel_rfl, by kernel_rfl⟩
 f29:=⟨Tryz.f133,Tryz.func133,by kernel_rfl,by kernel_rfl,by kernel_rfl,by kernel_rfl⟩
 t3:=by kernel_rfl
 t4:=by kernel_rfl
 t24:=by kernel_rfl
 i9:=⟨inf64,(Option.some_get i64).symm,by kernel_rfl,by kernel_rfl,(Option.some_get z64).symm,by kernel_rfl,by decide⟩
theorem p348:Z.DelT Tryz.prog (renD 135 3 4 64 39) 5 zv64 where
 mixed:=by kernel_rfl
 f45 := ⟨(Tryz.prog.funcs[135]?.map (·.name)).getD "", by kernel_rfl, by kernel_rfl⟩
 t3:=by kernel_rfl
 t4:=by kernel_rfl
 t22:=by kernel_rfl
 i23:=⟨inf64,(Option.some_get i64).symm,by kernel_rfl,by kernel_rfl,by decide,(Option.some_get z64).symm,List.all_eq_true.1 (show (zv64.cells.toList.all (·.oneCell'))=true from by kernel_rfl)⟩
theorem ok407:FnOk Tryz.prog c F (407,4,r407):=⟨Tryz.f4,[],[[0,2,3,4,1,5,6],[0,1,2,3,4,5,6],[],[],[0,1,2,3,4,5,6,7,8,9,10,11,14,12,13,15,16,17,22,18,19,20,21,23,24,25,26,27,28],[0,1,2,3,4,5,6,7,8,9,10,11,12,13,14,15,16,17,18,19,20,21,22,23,24,25,26,27,28],[],[],[3,4,6,7,8,10,12]],Tryz.func4,by kernel_rfl,by kernel_rfl,by kernel_rfl⟩
theorem ok144:FnOk Tryz.prog c F (144,5,r144):=⟨Tryz.f5,[],[],Tryz.func5,by kernel_rfl,by kernel_rfl,by kernel_rfl⟩
theorem ok384:FnOk Tryz.prog c F (384,6,r384):=⟨Tryz.f6,[],[[2,4,5,6,7,8]],Tryz.func6,by kernel_rfl,by kernel_rfl,by kernel_rfl⟩
theorem ok385:FnOk Tryz.prog c F (385,10,r385):=⟨Tryz.f10,[],[[2,3,5],[2,7,0,1,3,4,5,6,8,9,10,11],[0,1,2,3,4,5,6,7,8,9,10,11],[],[]],Tryz.func10,by kernel_rfl,by kernel_rfl,by kernel_rfl⟩
theorem ok157:FnOk Tryz.prog c F (157,12,r157):=⟨Tryz.f12,[],[],Tryz.func12,by kernel_rfl,by kernel_rfl,by kernel_rfl⟩
theorem ok394:FnOk Tryz.prog c F (394,13,r394):=⟨Tryz.f13,[],[[2,3,5],[2,7,0,1,3,4,5,6,8,9,10],[0,1,2,3,4,5,6,7,8,9,10],[],[]],Tryz.func13,by kernel_rfl,by kernel_rfl,by kernel_rfl⟩
theorem ok177:FnOk Tryz.prog c F (177,14,r177):=⟨Tryz.f14,[],[],Tryz.func14,by kernel_rfl,by kernel_rfl,by kernel_rfl⟩
theorem ok301:FnOk Tryz.prog c F (301,15,r301):=⟨Tryz.f15,[],[],Tryz.func15,by kernel_rfl,by kernel_rfl,by kernel_rfl⟩
theorem ok190:FnOk Tryz.prog c F (190,16,r190):=⟨Tryz.f16,[],[],Tryz.func16,by kernel_rfl,by kernel_rfl,by kernel_rfl⟩
theorem ok397:FnOk Tryz.prog c F (397,17,r397):=⟨Tryz.f17,[],[[2,3,5],[2,7,0,1,3,4,5,6,8,9,10],[0,1,2,3,4,5,6,7,8,9,10],[],[]],Tryz.func17,by kernel_rfl,by kernel_rfl,by kernel_rfl⟩
theorem ok382:FnOk Tryz.prog c F (382,18,r382):=⟨Tryz.f18,[],[],Tryz.func18,by kernel_rfl,by kernel_rfl,by kernel_rfl⟩
theorem ok309:FnOk Tryz.prog c F (309,19,r309):=⟨Tryz.f19,[],[[2,4,6,8,9,42,43,44]],Tryz.func19,by kernel_rfl,by kernel_rfl,by kernel_rfl⟩
theorem ok298:FnOk Tryz.prog c F (298,20,r298):=⟨Tryz.f20,[],[],Tryz.func20,by kernel_rfl,by kernel_rfl,by kernel_rfl⟩
theorem ok194:FnOk Tryz.prog c F (194,21,r194):=⟨Tryz.f21,[31],[[0,3,4]],Tryz.func21,by kernel_rfl,by kernel_rfl,by kernel_rfl⟩
theorem ok392:FnOk Tryz.prog c F (392,22,r392):=⟨Tryz.f22,[],[[0,6,7,8]],Tryz.func22,by kernel_rfl,by kernel_rfl,by kernel_rfl⟩
theorem ok236:FnOk Tryz.prog c F (236,23,r236):=⟨Tryz.f23,[],[],Tryz.func23,by kernel_rfl,by kernel_rfl,by kernel_rfl⟩
theorem ok238:FnOk Tryz.prog c F (238,24,r238):=⟨Tryz.f24,[],[],Tryz.func24,by kernel_rfl,by kernel_rfl,by kernel_rfl⟩
theorem ok393:FnOk Tryz.prog c F (393,25,r393):=⟨Tryz.f25,[],[[0,3,4,5,6,7],[2,0,1,3,4,5,6,7],[0,1,2,3,4,5,6,7],[],[1,3]],Tryz.func25,by kernel_rfl,by kernel_rfl,by kernel_rfl⟩
theorem ok381:FnOk Tryz.prog c F (381,26,r381):=⟨Tryz.f26,[],[],Tryz.func26,by kernel_rfl,by kernel_rfl,by kernel_rfl⟩
theorem ok206:FnOk Tryz.prog c F (206,27,r206):=⟨Tryz.f27,[],[[1,26,27,28],[0,1,2,3,4,5,6,7,8,9,10,11,12,13,16,17,14,15,18,19,20,21,22,23,24,25],[0,1,2,3,4,5,6,7,8,9,10,11,12,13,14,15,16,17,18,19,20,21,22,23,24,25],[],[]],Tryz.func27,by kernel_rfl,by kernel_rfl,by kernel_rfl⟩
theorem ok320:FnOk Tryz.prog c F (320,30,r320):=⟨Tryz.f30,[],[[2,3,12,13,14],[0,1,2,3,4,5,6,7],[0,1,2,3,4,5,6,7],[],[]],Tryz.func30,by kernel_rfl,by kernel_rfl,by kernel_rfl⟩
theorem ok319:FnOk Tryz.prog c F (319,32,r319):=⟨Tryz.f32,[],[],Tryz.func32,by kernel_rfl,by kernel_rfl,by kernel_rfl⟩
theorem ok321:FnOk Tryz.prog c F (321,34,r321):=⟨Tryz.f34,[],[[1,2,4,10,11]],Tryz.func34,by kernel_rfl,by kernel_rfl,by kernel_rfl⟩
theorem ok213:FnOk Tryz.prog c F (213,41,r213):=⟨Tryz.f41,[4,5],[],Tryz.func41,by kernel_rfl,by kernel_rfl,by kernel_rfl⟩
theorem ok229:FnOk Tryz.prog c F (229,45,r229):=⟨Tryz.f45,[],[],Tryz.func45,by kernel_rfl,by kernel_rfl,by kernel_rfl⟩
theorem ok387:FnOk Tryz.prog c F (387,46,r387):=⟨Tryz.f46,[],[[0,1,2,3,4,5,6],[0,1,2,3,4,5,6],[],[],[0,1,2,3,4,5,6,7],[0,1,2,3,4,5,6,7],[],[],[9,0,1,2,3,4,5,6,7,8,10,11],[0,1,2,3,4,5,6,7,9,10,8,11],[],[],[0,1,2,3,4,5,6,7,8,9,10],[0,1,2,3,4,5,6,7,8,9,10],[],[]],Tryz.func46,by kernel_rfl,by kernel_rfl,by kernel_rfl⟩
theorem ok244:FnOk Tryz.prog c F (244,47,r244):=⟨Tryz.f47,[],[[1,46,47,48],[1,76,77,78],[0,1,2,3,4,5,6,7,8,9,10,11,12,13,14,15,16,17,18,19,20,23,24,21,22,25,26,27,28,29,30,31],[0,1,2,3,4,5,6,7,8,9,10,11,12,13,14,15,16,17,18,19,20,21,22,23,24,25,26,27,28,29,30,31],[],[]],Tryz.func47,by kernel_rfl,by kernel_rfl,by kernel_rfl⟩
theorem ok396:FnOk Tryz.prog c F (396,48,r396):=⟨Tryz.f48,[],[[2,0,1,3,4,5,6,7,8,9,10],[0,1,2,3,4,5,6,7,8,9,10],[],[1,6],[1,3,0,2,4,5,6,7,8],[0,1,2,3,4,5,6,8,7],[],[0,2],[1,0,2,3,4,5,6,7,8,9],[0,1,2,3,4,5,6,9,7,8],[],[0,3]],Tryz.func48,by kernel_rfl,by kernel_rfl,by kernel_rfl⟩
theorem ok263:FnOk Tryz.prog c F (263,49,r263):=⟨Tryz.f49,[],[[0,1,5,6,2,3,4,7,8,9,10,11,12],[0,1,2,3,4,5,6,7,8,9,10,11,12],[],[],[0,1,4,5,2,3,6,7,8,9],[0,1,2,3,4,5,6,7,8,9],[],[],[0,1,2,5,6,3,4,7,8,9,10,11,12,13,14],[0,1,2,3,4,5,6,7,8,9,10,11,12,13,14],[],[]],Tryz.func49,by kernel_rfl,by kernel_rfl,by kernel_rfl⟩
theorem ok211:FnOk Tryz.prog c F (211,35,r211):=⟨Tryz.f35,[],[[1,2,5]],Tryz.func35,by kernel_rfl,by kernel_rfl,by kernel_rfl⟩
theorem ok239:FnOk Tryz.prog c F (239,50,r239):=⟨Tryz.f50,[],[],Tryz.func50,by kernel_rfl,by kernel_rfl,by kernel_rfl⟩
theorem ok235:FnOk Tryz.prog c F (235,51,r235):=⟨Tryz.f51,[],[],Tryz.func51,by kernel_rfl,by kernel_rfl,by kernel_rfl⟩
theorem ok237:FnOk Tryz.prog c F (237,52,r237):=⟨Tryz.f52,[],[],Tryz.func52,by kernel_rfl,by kernel_rfl,by kernel_rfl⟩
theorem ok5:FnOk Tryz.prog c F (5,53,r5):=⟨Tryz.f53,[],[],Tryz.func53,by kernel_rfl,by kernel_rfl,by kernel_rfl⟩
theorem ok240:FnOk Tryz.prog c F (240,54,r240):=⟨Tryz.f54,[],[],Tryz.func54,by kernel_rfl,by kernel_rfl,by kernel_rfl⟩
theorem ok317:FnOk Tryz.prog c F (317,37,r317):=⟨Tryz.f37,[],[[1,2,3,4],[4,0,1,2,3,5,6,7,8,9,10,11],[0,1,2,3,4,5,6,7,8,9,10,11],[],[]],Tryz.func37,by kernel_rfl,by kernel_rfl,by kernel_rfl⟩
theorem ok228:FnOk Tryz.prog c F (228,39,r228):=⟨Tryz.f39,[],[[1,2,3,4]],Tryz.func39,by kernel_rfl,by kernel_rfl,by kernel_rfl⟩
theorem ok156:FnOk Tryz.prog c F (156,55,r156):=⟨Tryz.f55,[],[[1,3],[0,1,2,3,4,5,6,7,8,9,10,11,12,13,16,17,14,15,18,19,20,21,22,23,24,25],[0,1,2,3,4,5,6,7,8,9,10,11,12,13,14,15,16,17,18,19,20,21,22,23,24,25],[],[]],Tryz.func55,by kernel_rfl,by kernel_rfl,by kernel_rfl⟩
theorem ok243:FnOk Tryz.prog c F (243,56,r243):=⟨Tryz.f56,[],[[0,3,5],[0,1,2,3,4,5],[0,1,2,3,4,5],[],[]],Tryz.func56,by kernel_rfl,by kernel_rfl,by kernel_rfl⟩
theorem ok323:FnOk Tryz.prog c F (323,57,r323):=⟨Tryz.f57,[],[[1,2,4,6,7,8],[4,0,1,2,3,5,6,7,8,9,10],[0,1,2,3,4,5,6,7,8,9,10],[],[]],Tryz.func57,by kernel_rfl,by kernel_rfl,by kernel_rfl⟩
theorem ok324:FnOk Tryz.prog c F (324,58,r324):=⟨Tryz.f58,[],[[1,2,4,8,9],[4,0,1,2,3,5,6,7,8,9,10],[0,1,2,3,4,5,6,7,8,9,10],[],[]],Tryz.func58,by kernel_rfl,by kernel_rfl,by kernel_rfl⟩
theorem ok325:FnOk Tryz.prog c F (325,59,r325):=⟨Tryz.f59,[],[],Tryz.func59,by kernel_rfl,by kernel_rfl,by kernel_rfl⟩
theorem ok326:FnOk Tryz.prog c F (326,60,r326):=⟨Tryz.f60,[],[],Tryz.func60,by kernel_rfl,by kernel_rfl,by kernel_rfl⟩
theorem ok388:FnOk Tryz.prog c F (388,61,r388):=⟨Tryz.f61,[],[],Tryz.func61,by kernel_rfl,by kernel_rfl,by kernel_rfl⟩
theorem ok389:FnOk Tryz.prog c F (389,62,r389):=⟨Tryz.f62,[],[],Tryz.func62,by kernel_rfl,by kernel_rfl,by kernel_rfl⟩
theorem ok390:FnOk Tryz.prog c F (390,63,r390):=⟨Tryz.f63,[],[],Tryz.func63,by kernel_rfl,by kernel_rfl,by kernel_rfl⟩
theorem ok391:FnOk Tryz.prog c F (391,64,r391):=⟨Tryz.f64,[],[],Tryz.func64,by kernel_rfl,by kernel_rfl,by kernel_rfl⟩
theorem ok328:FnOk Tryz.prog c F (328,65,r328):=⟨Tryz.f65,[],[[1,2,5]],Tryz.func65,by kernel_rfl,by kernel_rfl,by kernel_rfl⟩
theorem ok374:FnOk Tryz.prog c F (374,66,r374):=⟨Tryz.f66,[],[[0,3,5,6,7],[0,1,2,4,5,6,3,7,8,9],[0,1,2,3,4,5,6,7,8,9],[],[]],Tryz.func66,by kernel_rfl,by kernel_rfl,by kernel_rfl⟩
theorem ok7:FnOk Tryz.prog c F (7,67,r7):=⟨Tryz.f67,[],[],Tryz.func67,by kernel_rfl,by kernel_rfl,by kernel_rfl⟩
theorem ok248:FnOk Tryz.prog c F (248,68,r248):=⟨Tryz.f68,[],[[0,1,7,8]],Tryz.func68,by kernel_rfl,by kernel_rfl,by kernel_rfl⟩
theorem ok249:FnOk Tryz.prog c F (249,73,r249):=⟨Tryz.f73,[],[],Tryz.func73,by kernel_rfl,by kernel_rfl,by kernel_rfl⟩
theorem ok260:FnOk Tryz.prog c F (260,79,r260):=⟨Tryz.f79,[],[],Tryz.func79,by kernel_rfl,by kernel_rfl,by kernel_rfl⟩
theorem ok212:FnOk Tryz.prog c F (212,31,r212):=⟨Tryz.f31,[3],[],Tryz.func31,by kernel_rfl,by kernel_rfl,by kernel_rfl⟩
theorem ok267:FnOk Tryz.prog c F (267,43,r267):=⟨Tryz.f43,[],[[0,1,2,3,5,6,7,8,4,9,10,11,12],[0,1,2,3,4,5,6,7,8,9,10,11,12],[],[]],Tryz.func43,by kernel_rfl,by kernel_rfl,by kernel_rfl⟩
theorem ok266:FnOk Tryz.prog c F (266,80,r266):=⟨Tryz.f80,[],[],Tryz.func80,by kernel_rfl,by kernel_rfl,by kernel_rfl⟩
theorem ok395:FnOk Tryz.prog c F (395,81,r395):=⟨Tryz.f81,[],[],Tryz.func81,by kernel_rfl,by kernel_rfl,by kernel_rfl⟩
theorem ok342:FnOk Tryz.prog c F (342,82,r342):=⟨Tryz.f82,[],[[1,2,6],[0,1,2,3,4,5,6,9,13,16,7,8,10,11,12,14,15,17],[0,1,2,3,4,5,6,16,7,8,9,10,11,12,13,14,15,17],[],[]],Tryz.func82,by kernel_rfl,by kernel_rfl,by kernel_rfl⟩
theorem ok265:FnOk Tryz.prog c F (265,83,r265):=⟨Tryz.f83,[],[[1,10,11,12],[0,1,2,3,4,5,6,7,8,9,10,11,12,13,14,15,16,17,18,19,20,21,22,23,24,25,26,27,30,31,28,29,32,33,34,35,36,37,38,39],[0,1,2,3,4,5,6,7,8,9,10,11,12,13,14,15,16,17,18,19,20,21,22,23,24,25,26,27,28,29,30,31,32,33,34,35,36,37,38,39],[],[]],Tryz.func83,by kernel_rfl,by kernel_rfl,by kernel_rfl⟩
theorem ok311:FnOk Tryz.prog c F (311,9,r311):=⟨Tryz.f9,[],[[1,2,3,6,8,9,10],[5,6,7,0,1,2,3,4,8,9,10,11,12],[0,1,2,3,4,5,6,7,8,9,10,11,12],[],[],[3,6,0,1,2,4,5,7,8,9,10,11],[0,1,2,3,4,5,6,7,8,9,10,11],[],[],[0,1,2,3,4,5,6,7],[0,1,2,3,4,5,6,7],[],[]],Tryz.func9,by kernel_rfl,by kernel_rfl,by kernel_rfl⟩
theorem ok271:FnOk Tryz.prog c F (271,84,r271):=⟨Tryz.f84,[],[],Tryz.func84,by kernel_rfl,by kernel_rfl,by kernel_rfl⟩
theorem ok364:FnOk Tryz.prog c F (364,85,r364):=⟨Tryz.f85,[],[[11,12,2,3,8,0,1,4,5,6,7,9,10,13,14],[0,1,2,3,4,5,11,12,13,6,7,8,9,10,14],[9],[],[2,3,6,8,10,11,12],[6,0,1,2,3,4,5,7,8,9,10,11,12,13],[0,1,2,3,4,5,6,7,8,9,10,11,12,13],[],[],[2,3,6,8,10,11,13],[4,0,1,2,3,5,6,7,8,9],[0,1,2,3,4,5,6,7,8,9],[],[],[2,3,6,8,11,14,15],[4,0,1,2,3,5,6,7,8,9,10,11],[0,1,2,3,4,5,6,7,8,9,10,11],[],[]],Tryz.func85,by kernel_rfl,by kernel_rfl,by kernel_rfl⟩
theorem ok290:FnOk Tryz.prog c F (290,86,r290):=⟨Tryz.f86,[],[],Tryz.func86,by kernel_rfl,by kernel_rfl,by kernel_rfl⟩
theorem ok300:FnOk Tryz.prog c F (300,87,r300):=⟨Tryz.f87,[],[],Tryz.func87,by kernel_rfl,by kernel_rfl,by kernel_rfl⟩
theorem ok264:FnOk Tryz.prog c F (264,88,r264):=⟨Tryz.f88,[],[[0,3,4]],Tryz.func88,by kernel_rfl,by kernel_rfl,by kernel_rfl⟩
theorem ok259:FnOk Tryz.prog c F (259,72,r259):=⟨Tryz.f72,[],[[1,2,3,4],[4,0,1,2,3,5,6,7,8,9,10],[0,1,2,3,4,5,6,7,8,9,10],[],[]],Tryz.func72,by kernel_rfl,by kernel_rfl,by kernel_rfl⟩
theorem ok204:FnOk Tryz.prog c F (204,89,r204):=⟨Tryz.f89,[],[[1,3],[0,1,2,3,4,5,6,7,8,9,10,11,12,13,14,15,16,17,18,19,20,23,24,21,22,25,26,27,28,29,30,31],[0,1,2,3,4,5,6,7,8,9,10,11,12,13,14,15,16,17,18,19,20,21,22,23,24,25,26,27,28,29,30,31],[],[],[1,5]],Tryz.func89,by kernel_rfl,by kernel_rfl,by kernel_rfl⟩
theorem ok241:FnOk Tryz.prog c F (241,90,r241):=⟨Tryz.f90,[],[[1,3],[0,1,2,5,6,3,4,7,8,9,10,11,12,13,14,15,16,17,18,19,20,21,22,23,24,25,26,27,28,29,30,31,32,33],[0,1,2,3,4,5,6,7,8,9,10,11,12,13,14,15,16,17,18,19,20,21,22,23,24,25,26,27,28,29,30,31,32,33],[],[]],Tryz.func90,by kernel_rfl,by kernel_rfl,by kernel_rfl⟩
theorem ok335:FnOk Tryz.prog c F (335,91,r335):=⟨Tryz.f91,[],[],Tryz.func91,by kernel_rfl,by kernel_rfl,by kernel_rfl⟩
theorem ok336:FnOk Tryz.prog c F (336,92,r336):=⟨Tryz.f92,[],[[3,4,5,6],[2,0,1,3,4,5,6,7,8],[0,1,2,3,4,5,6,7,8],[],[]],Tryz.func92,by kernel_rfl,by kernel_rfl,by kernel_rfl⟩
theorem ok242:FnOk Tryz.prog c F (242,93,r242):=⟨Tryz.f93,[],[],Tryz.func93,by kernel_rfl,by kernel_rfl,by kernel_rfl⟩
theorem ok247:FnOk Tryz.prog c F (247,69,r247):=⟨Tryz.f69,[],[],Tryz.func69,by kernel_rfl,by kernel_rfl,by kernel_rfl⟩
theorem ok275:FnOk Tryz.prog c F (275,76,r275):=⟨Tryz.f76,[],[[3,6,7,8]],Tryz.func76,by kernel_rfl,by kernel_rfl,by kernel_rfl⟩
theorem ok273:FnOk Tryz.prog c F (273,77,r273):=⟨Tryz.f77,[],[],Tryz.func77,by kernel_rfl,by kernel_rfl,by kernel_rfl⟩
theorem ok274:FnOk Tryz.prog c F (274,78,r274):=⟨Tryz.f78,[],[],Tryz.func78,by kernel_rfl,by kernel_rfl,by kernel_rfl⟩
theorem ok272:FnOk Tryz.prog c F (272,107,r272):=⟨Tryz.f107,[],[[0,3,7,8],[1,2,3,0,4,5],[0,1,2,3,4,5],[],[]],Tryz.func107,by kernel_rfl,by kernel_rfl,by kernel_rfl⟩
theorem ok337:FnOk Tryz.prog c F (337,108,r337):=⟨Tryz.f108,[],[],Tryz.func108,by kernel_rfl,by kernel_rfl,by kernel_rfl⟩
theorem ok338:FnOk Tryz.prog c F (338,109,r338):=⟨Tryz.f109,[],[],Tryz.func109,by kernel_rfl,by kernel_rfl,by kernel_rfl⟩
theorem ok339:FnOk Tryz.prog c F (339,110,r339):=⟨Tryz.f110,[5],[],Tryz.func110,by kernel_rfl,by kernel_rfl,by kernel_rfl⟩
theorem ok340:FnOk Tryz.prog c F (340,111,r340):=⟨Tryz.f111,[5],[],Tryz.func111,by kernel_rfl,by kernel_rfl,by kernel_rfl⟩
theorem ok398:FnOk Tryz.prog c F (398,112,r398):=⟨Tryz.f112,[6,7],[],Tryz.func112,by kernel_rfl,by kernel_rfl,by kernel_rfl⟩
theorem ok399:FnOk Tryz.prog c F (399,113,r399):=⟨Tryz.f113,[6,7],[],Tryz.func113,by kernel_rfl,by kernel_rfl,by kernel_rfl⟩
theorem ok400:FnOk Tryz.prog c F (400,114,r400):=⟨Tryz.f114,[4,5],[],Tryz.func114,by kernel_rfl,by kernel_rfl,by kernel_rfl⟩
theorem ok401:FnOk Tryz.prog c F (401,115,r401):=⟨Tryz.f115,[4,5],[],Tryz.func115,by kernel_rfl,by kernel_rfl,by kernel_rfl⟩
theorem ok316:FnOk Tryz.prog c F (316,36,r316):=⟨Tryz.f36,[],[],Tryz.func36,by kernel_rfl,by kernel_rfl,by kernel_rfl⟩
theorem ok333:FnOk Tryz.prog c F (333,38,r333):=⟨Tryz.f38,[],[[1,2,4,8,9,10],[6,0,1,2,3,4,5,7,8,9,10,11,12,13],[0,1,2,3,4,5,6,7,8,9,10,11,12,13],[],[],[1,2,4,8,9,11],[4,0,1,2,3,5,6,7,8,9,10],[0,1,2,3,4,5,6,7,8,9,10],[],[]],Tryz.func38,by kernel_rfl,by kernel_rfl,by kernel_rfl⟩
theorem ok318:FnOk Tryz.prog c F (318,40,r318):=⟨Tryz.f40,[],[[1,4,5,6]],Tryz.func40,by kernel_rfl,by kernel_rfl,by kernel_rfl⟩
theorem ok210:FnOk Tryz.prog c F (210,116,r210):=⟨Tryz.f116,[],[[1,2,3,7]],Tryz.func116,by kernel_rfl,by kernel_rfl,by kernel_rfl⟩
theorem ok276:FnOk Tryz.prog c F (276,105,r276):=⟨Tryz.f105,[],[],Tryz.func105,by kernel_rfl,by kernel_rfl,by kernel_rfl⟩
theorem ok277:FnOk Tryz.prog c F (277,106,r277):=⟨Tryz.f106,[],[],Tryz.func106,by kernel_rfl,by kernel_rfl,by kernel_rfl⟩
theorem ok345:FnOk Tryz.prog c F (345,124,r345):=⟨Tryz.f124,[],[],Tryz.func124,by kernel_rfl,by kernel_rfl,by kernel_rfl⟩
theorem ok344:FnOk Tryz.prog c F (344,125,r344):=⟨Tryz.f125,[],[],Tryz.func125,by kernel_rfl,by kernel_rfl,by kernel_rfl⟩
theorem ok346:FnOk Tryz.prog c F (346,126,r346):=⟨Tryz.f126,[],[[0,1,6,7,2,3,4,5,8,9,10],[0,1,2,3,4,5,6,7,8,9,10],[],[],[0,1,2,3,4,5,6,7,8],[0,1,2,3,4,5,6,7,8],[],[]],Tryz.func126,by kernel_rfl,by kernel_rfl,by kernel_rfl⟩
theorem ok347:FnOk Tryz.prog c F (347,127,r347):=⟨Tryz.f127,[],[[0,1,2,3,4,5],[0,1,2,3,4,5],[],[],[0,1,2,3,4,5,6,7,8],[0,1,2,3,4,5,6,7,8],[],[]],Tryz.func127,by kernel_rfl,by kernel_rfl,by kernel_rfl⟩
theorem ok402:FnOk Tryz.prog c F (402,128,r402):=⟨Tryz.f128,[],[[0,1,2,3,4,5],[0,1,2,3,4,5],[],[],[0,1,2,3,4,5,6,7,8],[0,1,2,3,4,5,6,7,8],[],[]],Tryz.func128,by kernel_rfl,by kernel_rfl,by kernel_rfl⟩
theorem ok403:FnOk Tryz.prog c F (403,129,r403):=⟨Tryz.f129,[],[[0,1,6,7,2,3,4,5,8,9,10],[0,1,2,3,4,5,6,7,8,9,10],[],[]],Tryz.func129,by kernel_rfl,by kernel_rfl,by kernel_rfl⟩
theorem ok404:FnOk Tryz.prog c F (404,130,r404):=⟨Tryz.f130,[],[[0,1,2,3,4,5],[0,1,2,3,4,5],[],[],[0,2,3,6,7,1,4,5,8,9,10,11,12,13],[0,1,2,3,4,5,6,7,8,9,10,11,12,13],[],[]],Tryz.func130,by kernel_rfl,by kernel_rfl,by kernel_rfl⟩
theorem ok405:FnOk Tryz.prog c F (405,131,r405):=⟨Tryz.f131,[],[[0,1,2,3,4,5],[0,1,2,3,4,5],[],[],[0,2,3,6,7,1,4,5,8,9,10,11,12,13],[0,1,2,3,4,5,6,7,8,9,10,11,12,13],[],[]],Tryz.func131,by kernel_rfl,by kernel_rfl,by kernel_rfl⟩
theorem okT:(c.T.all fun x=>x.2.okB Tryz.prog (mkCfgZ Tryz.prog tab ptab tags).ET (mkCfgZ Tryz.prog tab ptab tags).SZ x.1)=true:=by kernel_rfl
theorem okF:(c.F.all fun x=>decide ((mkCfgZ Tryz.prog tab ptab tags).G x.2=some x.1))=true:=by kernel_rfl
theorem okTab:AllT (FnOk Tryz.prog c F) tab:=⟨ok407,ok144,ok384,ok385,ok157,ok394,ok177,ok301,ok190,ok397,ok382,ok309,ok298,ok194,ok392,ok236,ok238,ok393,ok381,ok206,ok320,ok319,ok321,ok213,ok229,ok387,ok244,ok396,ok263,ok211,ok239,ok235,ok237,ok5,ok240,ok317,ok228,ok156,ok243,ok323,ok324,ok325,ok326,ok388,ok389,ok390,ok391,ok328,ok374,ok7,ok248,ok249,ok260,ok212,ok267,ok266,ok395,ok342,ok265,ok311,ok271,ok364,ok290,ok300,ok264,ok259,ok204,ok241,ok335,ok336,ok242,ok247,ok275,ok273,ok274,ok272,ok337,ok338,ok339,ok340,ok398,ok399,ok400,ok401,ok316,ok333,ok318,ok210,ok276,ok277,ok345,ok344,ok346,ok347,ok402,ok403,ok404,ok405,trivial⟩
theorem okP:AllT (PFn Tryz.prog F) ptab:=⟨⟨⟨Tryz.f33,Tryz.func33,by kernel_rfl,by kernel_rfl⟩,rfl,step_ins _ _⟩,⟨⟨Tryz.f42,Tryz.func42,by kernel_rfl,by kernel_rfl⟩,rfl,step_sort _ _⟩,⟨⟨Tryz.f44,Tryz.func44,by kernel_rfl,by kernel_rfl⟩,rfl,step_del _⟩,⟨⟨Tryz.f123,Tryz.func123,by kernel_rfl,by kernel_rfl⟩,rfl,step_ins _ _⟩,⟨⟨Tryz.f135,Tryz.func135,by kernel_rfl,by kernel_rfl⟩,rfl,step_del _⟩,trivial⟩
theorem prog (O:Nat):ProgOk ((mkCfgZ Tryz.prog tab ptab tags).at O) c F (primZ ptab):=
 mkProgZ okT okF okTab okP ⟨⟨Tryz.f29,Tryz.func29,by kernel_rfl,by kernel_rfl,by kernel_rfl,by kernel_rfl⟩,trivial⟩ ⟨⟨by kernel_rfl,by kernel_rfl,by kernel_rfl⟩,⟨by kernel_rfl,by kernel_rfl,by kernel_rfl⟩,trivial⟩ O ⟨ins_ok (ρ:=renI 33 70 71 3 4 44 24) (k:=6) rfl rfl p332,sort_sound (ρ:=(renS [(6,42),(14,74),(15,75),(20,95),(21,96),(22,97),(23,98),(24,99),(25,100),(26,101),(27,102),(28,103),(29,104),(46,118),(47,119),(48,120),(49,121),(50,122),(57,132)] [(0,0),(3,3),(4,4),(5,5),(9,9),(22,42),(24,67),(25,74),(39,101),(45,116),(46,117),(50,106),(53,123),(55,30),(66,128),(70,132),(76,138),(77,139)])) (g:=43) rfl p375 Tryz.isAgg67 Tryz.sizeOf67 rfl (fun args w=>enter_run (prog2 0).cc (g:=267) rfl args) cmpF,del_ok (ρ:=renD 44 3 4 44 24) (k:=6) rfl rfl p330,ins_ok (ρ:=renI 123 133 134 3 4 64 39) (k:=5) rfl rfl p343,del_ok (ρ:=renD 135 3 4 64 39) (k:=5) rfl rfl p348,trivial⟩
theorem pr332:PrimAt F (primZ ptab) 332 (insF 16 80):=primAt (ptab:=ptab) (n:=332) (x:=(33,(insF 16 80))) rfl rfl
theorem pr375:PrimAt F (primZ ptab) 375 (sortF 9 267):=primAt (ptab:=ptab) (n:=375) (x:=(42,(sortF 9 267))) rfl rfl
theorem pr330:PrimAt F (primZ ptab) 330 (delF 16):=primAt (ptab:=ptab) (n:=330) (x:=(44,(delF 16))) rfl rfl
theorem pr343:PrimAt F (primZ ptab) 343 (insF 11 40):=primAt (ptab:=ptab) (n:=343) (x:=(123,(insF 11 40))) rfl rfl
theorem pr348:PrimAt F (primZ ptab) 348 (delF 11):=primAt (ptab:=ptab) (n:=348) (x:=(135,(delF 11))) rfl rfl
end Go.Proofs.YthofpopafchelaaGreat.A.Installed
namespace Go.Proofs.YthofpopafchelaaGreat.A
open Go
set_option linter.unusedSimpArgs false
set_option linter.unusedVariables false
section
variable {F:Nat→Option RF} {Z:CallF} {g h h1:Heap}
set_option maxHeartbeats 8000000 in
set_option maxRecDepth 8000 in
theorem inst_run {y z8 x1 x2:Cell} {c3 cs2:List Cell} {qs:List Request} {fy:List Nat} {lo6 gr8 sn8 lo hi2 st ep e qe qo qi qa qt X V:Int} {i:Nat}
 (l:SlR 3 (Fl Request.enc) h y qs fy) (hi:i<qs.length) (hil:qs.length≤1000) (hq:qs[i]=⟨qe,qo,qi,qa,qt⟩)
 (n2:cs2.length=3∧cs2.take 3=cs2∧cs2.drop 3=[])
 (e2:call F Z 382 [.agg [.int .i64 gr8,.int .i64 sn8,z8],.agg [.int .i64 e,.int .i64 qo,.int .u64 qi,.int .u64 qa,.int .i64 qt]] h=some (.tup [.agg cs2,.c (.int .i64 X),.c (.int .u64 V)],h1))
 (hX:qi≥lo→qi≤hi2→qo≥0→qo<8→X=10):
 loop F Z [3,4,6,7,8,10,12] r407L0 ⟨[(4,.c y),(6,.c (.int .u64 lo6)),(7,.c (.int .i64 e)),(12,.c (.int .i64 (i:Nat)))],[(3,3,0),(8,8,0),(10,10,0)],[(3,c3),(8,[.int .i64 gr8,.int .i64 sn8,z8]),(10,[.int .u64 lo,.int .u64 hi2,.int .i64 st,.int .i64 ep,x1,x2])],h⟩=
  loop F Z [3,4,6,7,8,10,12] r407L0 ⟨[(4,.c y),(6,.c (.int .u64 lo6)),(7,.c (.int .i64 e)),(12,.c (.int .i64 ((i+1:Nat):Int)))],[(3,3,0),(8,8,0),(10,10,0)],[(3,c3),(8,[.int .i64 gr8,.int .i64 sn8,z8]),(10,[.int .u64 lo,.int .u64 hi2,.int .i64 st,.int .i64 ep,x1,x2])],h1⟩:=by
 have hle:=l.le2
 have hlt:(i:Int)<qs.length:=by omega
 have hws:=wrapS i (by omega)
 have hli:=l.idx hi
 have hll:=l.load hi
 have hlen:=l.len
 rw[hq] at hll
 simp only[Request.enc] at hll
 obtain ⟨a1,a2,a3⟩:=n2
 clear l hq
 rw[loop_run]
 conv in (codeF _ _ r407L0 _)=>unfold r407L0
 by_cases c1:qi≥lo
 case neg=>simp only[rn,RO.dst,lk,drop,Nat.reduceBEq,Nat.reduceAdd,Nat.reduceLeDiff,↓reduceIte,reduceCtorEq,List.replicate_succ,List.replicate_zero,fills,and_self,List.set_cons_zero,List.set_cons_succ,Nat.reduceLT,Nat.zero_lt_succ,Nat.zero_lt_one,hlen,hlt,hli,hll,e2,a1,a2,a3,c1,hws]
 by_cases c2:qi≤hi2
 case neg=>simp only[rn,RO.dst,lk,drop,Nat.reduceBEq,Nat.reduceAdd,Nat.reduceLeDiff,↓reduceIte,reduceCtorEq,List.replicate_succ,List.replicate_zero,fills,and_self,List.set_cons_zero,List.set_cons_succ,Nat.reduceLT,Nat.zero_lt_succ,Nat.zero_lt_one,hlen,hlt,hli,hll,e2,a1,a2,a3,c1,c2,hws]
 by_cases c3:qo≥0
 case neg=>simp only[rn,RO.dst,lk,drop,Nat.reduceBEq,Nat.reduceAdd,Nat.reduceLeDiff,↓reduceIte,reduceCtorEq,List.replicate_succ,List.replicate_zero,fills,and_self,List.set_cons_zero,List.set_cons_succ,Nat.reduceLT,Nat.zero_lt_succ,Nat.zero_lt_one,hlen,hlt,hli,hll,e2,a1,a2,a3,c1,c2,c3,hws]
 by_cases c4:qo<8
 case neg=>simp only[rn,RO.dst,lk,drop,Nat.reduceBEq,Nat.reduceAdd,Nat.reduceLeDiff,↓reduceIte,reduceCtorEq,List.replicate_succ,List.replicate_zero,fills,and_self,List.set_cons_zero,List.set_cons_succ,Nat.reduceLT,Nat.zero_lt_succ,Nat.zero_lt_one,hlen,hlt,hli,hll,e2,a1,a2,a3,c1,c2,c3,c4,hws]
 obtain rfl:=hX c1 c2 c3 c4
 simp only[rn,RO.dst,lk,drop,Nat.reduceBEq,Nat.reduceAdd,Nat.reduceLeDiff,↓reduceIte,reduceCtorEq,List.replicate_succ,List.replicate_zero,fills,and_self,List.set_cons_zero,List.set_cons_succ,Nat.reduceLT,Nat.zero_lt_succ,Nat.zero_lt_one,hlen,hlt,hli,hll,e2,a1,a2,a3,c1,c2,c3,c4,Int.reduceBNe,bne_self_eq_false,hws]
set_option maxHeartbeats 8000000 in
set_option maxRecDepth 8000 in
theorem law_Installed (hI10:Has F tI10) (hI11:Has F tI11) (hI13:Has F tI13) (hLBook:Has F tLBook) (hLShard:Has F tLShard) (hLStore:Has F tLStore) (hLaws:Has F tLaws) (hLibcmpCompareint:Has F tLibcmpCompareint) (hLibcmpCompareuint64:Has F tLibcmpCompareuint64) (hLibcmpOrint:Has F tLibcmpOrint) (hLibcmpisNaNint:Has F tLibcmpisNaNint) (hLibcmpisNaNuint64:Has F tLibcmpisNaNuint64) (hLibslicesContainsimplFinimplFin:Has F tLibslicesContainsimplFinimplFin) (hLibslicesIndexFuncimplShardimplShard:Has F tLibslicesIndexFuncimplShardimplShard) (hLibslicesIndeximplFinimplFin:Has F tLibslicesIndeximplFinimplFin) (hS01d:Has F tS01d) (hS10:Has F tS10) (hS11:Has F tS11) (hS13:Has F tS13) (hWFnInstalled:Has F tWFnInstalled) (pr330:PrimAt F Z 330 (delF 16)) (pr332:PrimAt F Z 332 (insF 16 80)) (pr343:PrimAt F Z 343 (insF 11 40)) (pr348:PrimAt F Z 348 (delF 11)) (pr375:PrimAt F Z 375 (sortF 9 267))
 (h:Heap) (avs:List V) (hfl:h.floor=h.next) (w:ArgsWf h 8 [shUint8S] avs): ∃h',call F Z 407 avs h=some (.c (.bool true),h'):=by
 obtain ⟨x,_,rfl,xw,w1⟩:=ArgsWf.slice w
 obtain ⟨code,v,hby⟩:=Wf.areBytes xw
 obtain rfl:=w1.nil
 have f0:h.floor≤h.next:=by omega
 have k:KI F:=⟨hI10,hI11,hI13,hLibcmpCompareint,hLibcmpCompareuint64,hLibcmpOrint,hLibcmpisNaNint,hLibcmpisNaNuint64,hLibslicesIndeximplFinimplFin,hLibslicesContainsimplFinimplFin⟩
 have ks:KS F:=⟨hS01d,hS10,hS13⟩
 have hL:=hLibslicesIndexFuncimplShardimplShard
 rw[call_run F Z (hWFnInstalled.lk (g:=407) rfl) _ _ rfl]
 have hb:=big_run (Z:=Z) hLaws v
 by_cases hbig:(code.length:Int)>1048576
 ·rw[decide_eq_true hbig] at hb
  simp only[rn,RO.dst,lk,drop,Nat.reduceBEq,Nat.reduceAdd,Nat.reduceLeDiff,↓reduceIte,reduceCtorEq,hb]
  exact ⟨_,rfl⟩
 rw[decide_eq_false hbig] at hb
 obtain ⟨s,qs,cs,y,g0,fp,fy,e0,o0,v0,_,lq,_,sg,_,sn1,sn2,hpos,_,okqs,hql⟩:=DrawRightStore_c (Z:=Z) ks hS11 f0 v
 obtain ⟨b,hbb,eb⟩:=at_byte (Z:=Z) (x:=x) hLaws hby (by omega) (i:=3) (by omega)
 have ebg:=eb ⟨g0.next,g0.next,g0.get⟩ ((v.on o0).up _)
 -- the place
 obtain ⟨K,hK,hKk⟩: ∃K:Nat,Int.tmod b (s.shards.length:Int)=(K:Int)∧K<s.shards.length:=by
  have h1:Int.tmod b (s.shards.length:Int)=b%(s.shards.length:Int):=Int.tmod_eq_emod_of_nonneg hbb.1
  have h2:=Int.emod_nonneg b (show (s.shards.length:Int)≠0 by omega)
  have h3:=Int.emod_lt_of_pos b (show (0:Int)<s.shards.length by omega)
  exact ⟨(b%(s.shards.length:Int)).toNat,by rw[h1];omega,by omega⟩
 have hrem:=b_rem .i64 b (s.shards.length:Int) (by omega)
 rw[hK] at hrem
 have he:s.seen<s.seen+1∧s.seen+1≤1000000:=by omega
 have hw1:IntKind.i64.wrap (s.seen+1)=s.seen+1:=wrapI _ (by omega) (by omega)
 have hw2:IntKind.i64.wrap (s.seen+1+1)=s.seen+1+1:=wrapI _ (by omega) (by omega)
 obtain ⟨g1,e1c⟩: ∃g1:Heap,g1=g0:=⟨_,rfl⟩
 have hgx:=(sg.good.sh _ (List.getElem_mem hKk)).1
 have hgo:=sg.ok.shards _ (List.getElem_mem hKk)
 obtain ⟨cf,g2,ff,e2,o2,u2,_⟩:=FreezeShard_c (Z:=Z) k hL (o0.le f0) v0 s.shards[K].lo (s.seen+1) sg.ok sg.small
 have v2:=Store.okI.on v0 o2
 have p2:=o0.trans o2
 have sgf:=sg.freeze s.shards[K].lo (s.seen+1)
 obtain ⟨f1,f2,f3⟩:=Store.lenI u2
 obtain ⟨z0,q0,rfl,rfl,w0⟩:=v0
 have hwl:=w0.len
 have hwi:=w0.idx hKk
 obtain ⟨r0,fr0,hld0,hr0,_⟩:=w0.one hKk
 have w2:=w0.on Shard.okI o2
 obtain ⟨r2,fr2,hld2,hr2,_⟩:=w2.one hKk
 obtain ⟨d1,d2,d3,d4,rfl,rfl,d5,d6⟩:=hr0
 obtain ⟨j1,j2,j3,j4,rfl,rfl,j5,j6⟩:=hr2
 by_cases hst:s.shards[K].state=0
 case neg=>
  have hno:=freeze_not sg.good hKk hst (s.seen+1)
  have es:=sameStore_r (Z:=Z) hLStore hLShard hLBook u2 v2
  rw[hno] at e2 es
  simp only[decide_true] at es e2
  have hstb:(s.shards[K].state !=0)=true:=by simpa using hst
  simp only[rn,RO.dst,lk,drop,Nat.reduceBEq,Nat.reduceAdd,Nat.reduceLeDiff,↓reduceIte,reduceCtorEq,List.replicate_succ,List.replicate_zero,fills,and_self,List.set_cons_zero,List.set_cons_succ,Nat.reduceLT,Nat.zero_lt_succ,Nat.zero_lt_one,hb,e0,hwl,ebg,hrem,hwi,hld0,hw1,e2,f1,f2,f3,hld2,hstb,es]
  exact ⟨_,rfl⟩
 case pos=>
  have W:=freeze_is sg.good hKk hst he
  obtain ⟨fst,hfst⟩: ∃f,(freezeShard s s.shards[K].lo (s.seen+1)).1=f:=⟨_,rfl⟩
  rw[hfst] at W u2 sgf
  rw[W.ok] at e2
  obtain ⟨cx,g3,fx,e3,o3,u3,_⟩:=ExportShard_c (Z:=Z) k hL (p2.le f0) u2 s.shards[K].lo sgf.ok sgf.small
  rw[W.exports] at e3 u3
  simp only at e3 u3
  obtain ⟨x1,x2,x3⟩:=Shard.lenI u3
  have p3:=p2.trans o3
  have w3:=w2.on Shard.okI o3
  obtain ⟨r3,fr3,hld3,hr3,_⟩:=w3.one hKk
  obtain ⟨m1,m2,m3,m4,rfl,rfl,m5,m6⟩:=hr3
  have u3':=u3
  obtain ⟨n1,n2,n3,n4,rfl,rfl,n5,n6⟩:=u3
  have esb:=sameBook_r (Z:=Z) (h:=⟨g3.next,g3.next,g3.get⟩) hLBook (Book.okI.up (show Book.RI g3 [n1] (s.shards[K].cold (s.seen+1)).book n2 from ⟨n1,n2,rfl,rfl,n5⟩) _) (Book.okI.up (show Book.RI g3 [m1] s.shards[K].book m2 from ⟨m1,m2,rfl,rfl,m5⟩) _)
  rw[show (s.shards[K].cold (s.seen+1)).book=s.shards[K].book from rfl] at esb
  simp only[decide_true] at esb
  have u2b:=Store.okI.on u2 o3
  have lq3:=(lq.on (Fl.ok _) o2).on (Fl.ok _) o3
  obtain ⟨z8,q8,rfl,rfl,w8⟩:=u2b
  obtain ⟨sL,⟨gL,hsL,oL⟩,lp⟩:=loop_goes (F:=F) (Z:=Z) (live:=[3,4,6,7,8,10,12]) (b:=r407L0) qs.length (fun i st=> ∃g':Heap,st=⟨[(4,.c y),(6,.c (.int .u64 s.shards[K].lo)),(7,.c (.int .i64 (s.seen+1))),(12,.c (.int .i64 (i:Nat)))],[(3,3,0),(8,8,0),(10,10,0)],[(3,[.int .i64 s.group,.int .i64 s.seen,z0]),(8,[.int .i64 fst.group,.int .i64 fst.seen,z8]),(10,[.int .u64 (s.shards[K].cold (s.seen+1)).lo,.int .u64 (s.shards[K].cold (s.seen+1)).hi,.int .i64 (s.shards[K].cold (s.seen+1)).state,.int .i64 (s.shards[K].cold (s.seen+1)).epoch,n1,n3])],g'⟩∧On g3 g') (fun i st hi ⟨g',hst',o'⟩=>by
   subst hst'
   have okq:=okqs _ (List.getElem_mem hi)
   obtain ⟨q,hq⟩: ∃q,qs[i]=q:=⟨_,rfl⟩
   rw[hq] at okq
   obtain ⟨qe,qo,qi,qa,qt⟩:=q
   have ok2:(⟨s.seen+1,qo,qi,qa,qt⟩:Request).Ok:=⟨by show _≤s.seen+1∧s.seen+1≤_;omega,okq.op,okq.id,okq.amount,okq.tx⟩
   have vf:Store.RI g' [.int .i64 fst.group,.int .i64 fst.seen,z8] fst _:=Store.okI.on ⟨z8,_,rfl,rfl,w8⟩ o'
   obtain ⟨cd,hd,fd,ed,od,vd,_⟩:=DoStore_c (Z:=Z) k hL pr343 pr348 pr375 ((p3.trans o').le f0) vf ⟨s.seen+1,qo,qi,qa,qt⟩ ok2 sgf.ok sgf.small
   simp only[Request.enc] at ed
   exact ⟨_,⟨hd,rfl,o'.trans od⟩,inst_run (lq3.on (Fl.ok _) o') hi (by omega) hq (Store.lenI vd) ed fun a1 a2 a3 a4=>W.cold rfl ⟨a1,a2⟩ ⟨a3,a4⟩⟩)
   (s:=⟨[(4,.c y),(6,.c (.int .u64 s.shards[K].lo)),(7,.c (.int .i64 (s.seen+1))),(12,.c (.int .i64 ((0:Nat):Int)))],[(3,3,0),(8,8,0),(10,10,0)],[(3,[.int .i64 s.group,.int .i64 s.seen,z0]),(8,[.int .i64 fst.group,.int .i64 fst.seen,z8]),(10,[.int .u64 (s.shards[K].cold (s.seen+1)).lo,.int .u64 (s.shards[K].cold (s.seen+1)).hi,.int .i64 (s.shards[K].cold (s.seen+1)).state,.int .i64 (s.shards[K].cold (s.seen+1)).epoch,n1,n3])],g3⟩) ⟨g3,rfl,On.refl g3⟩
  subst hsL
  simp only[show ((0:Nat):Int)=0 from rfl] at lp
  -- behind the loop
  have pL:=p3.trans oL
  have cg:=Shard.cold_good hgx (e:=s.seen+1) (by omega)
  have co:=Shard.cold_ok hgo (e:=s.seen+1) (by omega)
  have csm:(s.shards[K].cold (s.seen+1)).Small:=show s.shards[K].Small from sg.small.2 _ (List.getElem_mem hKk)
  have uL:=Shard.okI.on u3' oL
  have vg:=Store.void_good (gr:=5) (sn:=0) (by omega) (by omega)
  obtain ⟨c5,g5,f5,e5,o5,u5,_⟩:=InstallShard_c (Z:=Z) k pr332 (pL.le f0) (show Store.RI gL [.int .i64 5,.int .i64 0,.nil] (Store.void 5 0) [] from ⟨.nil,[],rfl,rfl,SlR.nil _ _ _⟩) uL (s.seen+1+1) vg.ok vg.small co csm
  have gi:=vg.install co (e:=s.seen+1+1) (by omega)
  have hiv:=install_void (gr:=5) (sn:=0) (by omega) hgx (e:=s.seen+1) (by omega) (by omega)
  rw[hiv] at e5 u5 gi
  simp only at e5 u5 gi
  have p5:=pL.trans o5
  obtain ⟨c6,g6,f6,e6,o6,u6,_⟩:=InstallShard_c (Z:=Z) k pr332 (p5.le f0) u5 (Shard.okI.on uL o5) (s.seen+1+1) gi.ok gi.small co csm
  rw[install_again (Int.le_refl _)] at e6
  have p6:=p5.trans o6
  have o36:=(oL.trans o5).trans o6
  have u86:Store.RI g6 [.int .i64 fst.group,.int .i64 fst.seen,z8] fst _:=Store.okI.on ⟨z8,_,rfl,rfl,w8⟩ o36
  obtain ⟨c7,g7,f7,e7,o7,u7,_⟩:=RetireShard_c (Z:=Z) k hL pr330 (p6.le f0) u86 s.shards[K].lo (s.seen+1) sgf.ok sgf.small
  have go:=sgf.retire s.shards[K].lo (s.seen+1)
  rw[W.retire] at e7 u7 go
  simp only at e7 u7 go
  have p7:=p6.trans o7
  obtain ⟨c8,g8,f8,e8,o8,u8,_⟩:=RetireShard_c (Z:=Z) k hL pr330 (p7.le f0) u7 s.shards[K].lo (s.seen+1) go.ok go.small
  rw[W.twice] at e8
  have p8:=p7.trans o8
  have u58:=Store.okI.on (Store.okI.on (Store.okI.on u5 o6) o7) o8
  obtain ⟨g9,e9,o9⟩:=StoreOk_c (Z:=Z) k (p8.le f0) u58 gi.ok
  rw[(Store.good_iff _).2 gi.good] at e9
  have p9:=p8.trans o9
  have u79:=Store.okI.on (Store.okI.on u7 o8) o9
  obtain ⟨g10,e10,o10⟩:=StoreOk_c (Z:=Z) k (p9.le f0) u79 go.ok
  rw[(Store.good_iff _).2 go.good] at e10
  have u5X:=Store.okI.on (Store.okI.on u58 o9) o10
  have uX:=Shard.okI.on (Shard.okI.on (Shard.okI.on (Shard.okI.on (Shard.okI.on (Shard.okI.on uL o5) o6) o7) o8) o9) o10
  obtain ⟨t1,t2,t3⟩:=Store.lenI u5
  obtain ⟨t4,t5,t6⟩:=Store.lenI u6
  obtain ⟨t7,t8,t9⟩:=Store.lenI u7
  obtain ⟨s1,s2,s3⟩:=Store.lenI u8
  obtain ⟨z5,q5,rfl,_,w5⟩:=u5X
  obtain ⟨z7,q7,rfl,_,w7⟩:=u79
  have hl5:=w5.len
  have hl7:=w7.len
  have hlf:=W.left.1
  have hl7b:((fst.without K).shards.length:Int)=(s.shards.length:Int)-1:=by omega
  rw[hl7b] at hl7
  have hw3:IntKind.i64.wrap ((s.shards.length:Int)-1)=(s.shards.length:Int)-1:=wrapI _ (by omega) (by have:=sg.good.len;omega)
  have hi5:=w5.idx (i:=0) (by simp)
  obtain ⟨r5,fr5,hld5,hr5,_⟩:=w5.one (i:=0) (by simp)
  obtain ⟨y1,y2,y3,y4,rfl,rfl,y5,y6⟩:=hr5
  have esh:=sameShard_r (Z:=Z) (h:=g10) hLShard hLBook uX (show Shard.RI g10 [.int .u64 s.shards[K].lo,.int .u64 s.shards[K].hi,.int .i64 1,.int .i64 (s.seen+1),y1,y3] (s.shards[K].cold (s.seen+1)) _ from ⟨y1,y2,y3,y4,rfl,rfl,y5,y6⟩)
  simp only[decide_true] at esh
  have hlenq:=(lq3.on (Fl.ok _) oL).len
  have hend: ¬((qs.length:Nat):Int)<qs.length:=by omega
  simp only[Shard.cold,List.length_cons,List.length_nil,List.getElem_cons_zero,show ((0:Nat):Int)=0 from rfl,show ((0+1:Nat):Int)=1 from rfl] at *
  simp only[rn,RO.dst,lk,drop,Nat.reduceBEq,Nat.reduceAdd,Nat.reduceLeDiff,↓reduceIte,reduceCtorEq,List.replicate_succ,List.replicate_zero,fills,and_self,List.set_cons_zero,List.set_cons_succ,Nat.reduceLT,Nat.zero_lt_succ,Nat.zero_lt_one,hb,e0,hwl,ebg,hrem,hwi,hld0,hw1,e2,f1,f2,f3,hld2,hst,e3,x1,x2,x3,hld3,esb,Int.reduceBNe,bne_self_eq_false,lp]
  rw[loop_run]
  conv in (codeF _ _ r407L0 _)=>unfold r407L0
  simp only[rn,RO.dst,lk,drop,Nat.reduceBEq,Nat.reduceAdd,Nat.reduceLeDiff,↓reduceIte,reduceCtorEq,List.replicate_succ,List.replicate_zero,fills,and_self,List.set_cons_zero,List.set_cons_succ,Nat.reduceLT,Nat.zero_lt_succ,Nat.zero_lt_one,hlenq,hend,hw2,e5,t1,t2,t3,e6,t4,t5,t6,e7,t7,t8,t9,e8,s1,s2,s3,hl5,hl7,hwl,hw3,bne_self_eq_false,e9,e10,hi5,hld5,esh,beq_self_eq_true,Int.reduceBEq]
  exact ⟨_,rfl⟩
end
end Go.Proofs.YthofpopafchelaaGreat.A
namespace Go.Proofs.YthofpopafchelaaGreat.A.Installed
open Go Go.ChangeShapes Go.WideShapes Go.ChangeAt Go.RowKit
theorem own:ownKnob Tryz.prog.godebug=none:=by kernel_rfl
set_option maxRecDepth 100000 in
theorem lifted (os:Os) (started:os.Started) (H:Type) (enc:TypeId×Value→H):
 ReturnsInHanded {} Tryz.checked os 4 .any (Rows.fnInstalledSpec.pre6 enc Tryz.prog Tryz.f4 Rows.fnInstalledRow.domain false) (Rows.fnInstalledSpec.post enc Tryz.prog Tryz.f4 false true false false):=by
 refine returnsInHanded_of_change_sized (C:=Tryz.checked) own started (by kernel_rfl) Tryz.func4
  (ChangeSpec.witness6 (enc:=enc) (C:=Tryz.checked) false ⟨#[],#[.slice none 0 0],[]⟩ 8 (by kernel_rfl) (by kernel_rfl) (by kernel_rfl) (by kernel_rfl)) ?_
 intro W base args ds gs before hval hW _ _ _
 have hW':=hW
 obtain ⟨p,q,hA,hV,rfl,hfz,hnd⟩:=hW
 obtain ⟨rfl,rfl⟩:=trodVars_none hV
 have r0:DataW.TrodAll enc Tryz.prog W 0 (fun _=>true) true [22] args.toList ds p:=hA
 obtain ⟨_,_,d0,_,_,_,_,rfl,_,_,r1⟩:=trodAll_cons r0
 obtain ⟨_,rfl,_⟩:=trodAll_nil r1
 refine (law_calls (ts:=[22]) (ss:=[shUint8S]) prog (show (mkCfgZ Tryz.prog tab ptab tags).G 407=some 4 from by kernel_rfl) ⟨show shIs Tryz.prog (mkCfgZ Tryz.prog tab ptab tags).ET (mkCfgZ Tryz.prog tab ptab tags).SZ 8 22 shUint8S=true from by kernel_rfl,trivial⟩ (law_Installed inI10 inI11 inI13 inLBook inLShard inLStore inLaws inLibcmpCompareint inLibcmpCompareuint64 inLibcmpOrint inLibcmpisNaNint inLibcmpisNaNuint64 inLibslicesContainsimplFinimplFin inLibslicesIndexFuncimplShardimplShard inLibslicesIndeximplFinimplFin inS01d inS10 inS11 inS13 inWFnInstalled pr330 pr332 pr343 pr348 pr375) (fun j t v h1=>hval j t v (by rw[Tryz.params4];exact (List.getElem?_toArray ..).trans h1)) hA).mono fun e W' ⟨he,bel⟩=> ?_
 subst he
 exact ⟨_,rfl,_,_,_,[],_,[],hW',trodAll_mk1 (shut_bool Tryz.underlying4 _),trodAll_below (by kernel_rfl) bel _ _ _ _ (by kernel_rfl) hA hA.lt,rfl,bel.frame _,fun h=>by cases h⟩
theorem over:Rows.fnInstalledRow.holds Tryz.pinned (OpenSpec.ofChange Rows.fnInstalledSpec):=
 OpenClaim.holds_of_wide 4 Tryz.f4 rfl rfl rfl rfl rfl rfl rfl ⟨rfl,rfl,rfl,rfl,rfl⟩ rfl rfl rfl rfl rfl (by kernel_rfl) Tryz.func4 (by kernel_rfl)
  (of_decide_eq_true (by kernel_rfl)) (by unfold Func.isWrapper;first | (rw[if_pos (by decide+kernel)];kernel_rfl) | (rw[if_neg (by decide+kernel)];exact ⟨rfl,rfl⟩))
  (fun os started H enc _=>lifted os started H enc)
end Go.Proofs.YthofpopafchelaaGreat.A.Installed
namespace Go.Proofs.YthofpopafchelaaGreat
/-- The row. -/
theorem fnInstalled_holds:Rows.FnInstalledSaid:=A.Installed.over
#print axioms fnInstalled_holds
end Go.Proofs.YthofpopafchelaaGreat
