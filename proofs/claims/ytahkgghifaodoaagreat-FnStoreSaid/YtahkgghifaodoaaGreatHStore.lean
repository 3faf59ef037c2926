/- FnStore: the statement, from the law of the abstract run. No condition. -/
import Derived.Test.YtahkgghifaodoaaGreatHCStore4
import Derived.Test.YtahkgghifaodoaaGreatB6
import Derived.Test.YtahkgghifaodoaaGreatZ7
import Derived.Test.YtahkgghifaodoaaGreatProg
import Derived.Test.YtahkgghifaodoaaGreatRows
import Derived.ProofKit
import Derived.OpenShut
import Derived.ShutString
import Derived.ChangeOld
import Derived.Below
import Derived.SizedLaws
namespace Go.Proofs.YtahkgghifaodoaaGreat.A.Store
open Go
set_option maxRecDepth 100000
def c:CC where
 T:=[(3,⟨1,8,false,some [.int .i64 0],(.int .i64)⟩),
  (5,⟨1,1,false,some [.int .u8 0],(.int .u8)⟩),
  (22,⟨1,24,false,some [.nil],(.slice 5 19)⟩),
  (24,⟨1,24,false,some [.nil],(.slice 60 16)⟩),
  (26,⟨3,40,true,some [.int .i64 0,.int .i64 0,.nil],(.struct [(0,1,false),(1,1,false),(2,1,false)])⟩),
  (27,⟨1,24,false,some [.nil],(.slice 32 3)⟩),
  (30,⟨1,8,false,some [.int .u64 0],(.int .u64)⟩),
  (32,⟨5,40,true,some [.int .i64 0,.int .i64 0,.int .u64 0,.int .u64 0,.int .i64 0],(.struct [(0,1,false),(1,1,false),(2,1,false),(3,1,false),(4,1,false)])⟩),
  (55,⟨1,24,false,some [.nil],(.slice 76 11)⟩),
  (57,⟨1,24,true,some [.nil],(.struct [(0,1,false)])⟩),
  (58,⟨1,24,false,some [.nil],(.slice 66 9)⟩),
  (60,⟨6,80,true,some [.int .u64 0,.int .u64 0,.int .i64 0,.int .i64 0,.nil,.nil],(.struct [(0,1,false),(1,1,false),(2,1,false),(3,1,false),(4,1,true),(5,1,false)])⟩),
  (66,⟨2,16,true,some [.int .i64 0,.int .u64 0],(.struct [(0,1,false),(1,1,false)])⟩),
  (76,⟨5,40,true,some [.int .u64 0,.int .u64 0,.int .u64 0,.int .u64 0,.int .i64 0],(.struct [(0,1,false),(1,1,false),(2,1,false),(3,1,false),(4,1,false)])⟩),
  (84,⟨3,40,true,some [.nil,.int .i64 0,.int .i64 0],(.struct [(0,1,false),(1,1,false),(2,1,false)])⟩),
  (88,⟨1,24,false,some [.nil],(.slice 3 15)⟩),
  (119,⟨1,8,false,some [.int .u64 0],(.int .u64)⟩),
  (120,⟨1,24,false,some [.nil],(.slice 30 13)⟩)]
 F:=[(4,386),(6,144),(7,384),(9,382),(10,385),(11,157),(12,381),(13,164),(20,194),(21,392),(22,236),(23,238),(24,393),(25,387),(26,394),(27,206),(28,317),(29,156),(30,5),(31,211),(32,228),(33,243),(34,323),(35,324),(36,325),(37,326),(38,388),(39,389),(40,390),(41,391),(42,328),(43,374),(44,209),(51,396),(52,263),(53,239),(54,235),(55,237),(56,240),(57,320),(58,212),(59,266),(60,395),(61,375),(62,267),(63,342),(64,397),(65,7),(66,244),(67,204),(68,259),(69,241),(70,335),(71,336),(72,242),(80,311),(81,271),(82,364),(83,290),(84,300),(85,264),(86,229),(87,248),(88,247),(89,272),(90,337),(91,338),(92,339),(93,340),(94,398),(95,399),(96,400),(97,401),(100,275),(101,273),(102,274),(103,265),(110,316),(111,333),(112,318),(113,210),(114,260),(115,343),(116,345),(117,344),(118,346),(119,347),(120,402),(121,403),(122,404),(123,405),(134,276),(135,277),(143,348)]
 eqT:=[(66,[.i .i64,.i .u64]),(76,[.i .u64,.i .u64,.i .u64,.i .u64,.i .i64])]
 adds:=[45]
def F:Nat→Option RF:=lk (tI10++tI11++tI13++tLBook++tLShard++tLStore++tLaws++tLibcmpCompareint++tLibcmpCompareuint64++tLibcmpOrint++tLibcmpisNaNint++tLibcmpisNaNuint64++tLibslicesContainsimplFinimplFin++tLibslicesIndexFuncimplShardimplShard++tLibslicesIndeximplFinimplFin++tS01d++tS10++tS11++tS13++tWFnStore)
def tab:List (Nat×FuncId×RF):=[(386,4,r386),(144,6,r144),(384,7,r384),(382,9,r382),(385,10,r385),(157,11,r157),(381,12,r381),(164,13,r164),(194,20,r194),(392,21,r392),(236,22,r236),(238,23,r238),(393,24,r393),(387,25,r387),(394,26,r394),(206,27,r206),(317,28,r317),(156,29,r156),(5,30,r5),(211,31,r211),(228,32,r228),(243,33,r243),(323,34,r323),(324,35,r324),(325,36,r325),(326,37,r326),(388,38,r388),(389,39,r389),(390,40,r390),(391,41,r391),(328,42,r328),(374,43,r374),(209,44,r209),(396,51,r396),(263,52,r263),(239,53,r239),(235,54,r235),(237,55,r237),(240,56,r240),(320,57,r320),(212,58,r212),(266,59,r266),(395,60,r395),(267,62,r267),(342,63,r342),(397,64,r397),(7,65,r7),(244,66,r244),(204,67,r204),(259,68,r259),(241,69,r241),(335,70,r335),(336,71,r336),(242,72,r242),(311,80,r311),(271,81,r271),(364,82,r364),(290,83,r290),(300,84,r300),(264,85,r264),(229,86,r229),(248,87,r248),(247,88,r247),(272,89,r272),(337,90,r337),(338,91,r338),(339,92,r339),(340,93,r340),(398,94,r398),(399,95,r399),(400,96,r400),(401,97,r401),(275,100,r275),(273,101,r273),(274,102,r274),(265,103,r265),(316,110,r316),(333,111,r333),(318,112,r318),(210,113,r210),(260,114,r260),(345,116,r345),(344,117,r344),(346,118,r346),(347,119,r347),(402,120,r402),(403,121,r403),(404,122,r404),(405,123,r405),(276,134,r276),(277,135,r277)]
def tags:List (Nat×TypeId×Nat):=[(3,32,5),(9,66,2),(11,76,5),(13,30,1),(15,3,1),(16,60,6),(19,5,1)]
theorem inI10:AllT (fun x=>F x.1=some x.2) tI10:=⟨rfl,rfl,rfl,rfl,rfl,rfl,rfl,rfl,rfl,rfl,rfl,rfl,rfl,rfl,rfl,rfl,rfl,rfl,rfl,rfl,trivial⟩
theorem inI11:AllT (fun x=>F x.1=some x.2) tI11:=⟨rfl,trivial⟩
theorem inI13:AllT (fun x=>F x.1=some x.2) tI13:=⟨rfl,rfl,rfl,rfl,rfl,rfl,rfl,rfl,rfl,rfl,rfl,rfl,trivial⟩
theorem inLBook:AllT (fun x=>F x.1=some x.2) tLBook:=⟨rfl,trivial⟩
theorem inLShard:AllT (fun x=>F x.1=some x.2) tLShard:=⟨rfl,trivial⟩
theorem inLStore:AllT (fun x=>F x.1=some x.2) tLStore:=⟨rfl,trivial⟩
theorem inLaws:AllT (fun x=>F x.1=some x.2) tLaws:=⟨rfl,trivial⟩
theorem inLibcmpCompareint:AllT (fun x=>F x.1=some x.2) tLibcmpCompareint:=⟨rfl,trivial⟩
theorem inLibcmpCompareuint64:AllT (fun x=>F x.1=some x.2) tLibcmpCompareuint64:=⟨rfl,trivial⟩
theorem inLibcmpOrint:AllT (fun x=>F x.1=some x.2) tLibcmpOrint:=⟨rfl,trivial⟩
theorem inLibcmpisNaNint:AllT (fun x=>F x.1=some x.2) tLibcmpisNaNint:=⟨rfl,trivial⟩
theorem inLibcmpisNaNuint64:AllT (fun x=>F x.1=some x.2) tLibcmpisNaNuint64:=⟨rfl,trivial⟩
theorem inLibslicesContainsimplFinimplFin:AllT (fun x=>F x.1=some x.2) tLibslicesContainsimplFinimplFin:=⟨rfl,trivial⟩
theorem inLibslicesIndexFuncimplShardimplShard:AllT (fun x=>F x.1=some x.2) tLibslicesIndexFuncimplShardimplShard:=⟨rfl,trivial⟩
theorem inLibslicesIndeximplFinimplFin:AllT (fun x=>F x.1=some x.2) tLibslicesIndeximplFinimplFin:=⟨rfl,trivial⟩
theorem inS01d:AllT (fun x=>F x.1=some x.2) tS01d:=⟨rfl,rfl,rfl,rfl,rfl,rfl,rfl,rfl,trivial⟩
theorem inS10:AllT (fun x=>F x.1=some x.2) tS10:=⟨rfl,rfl,rfl,rfl,rfl,rfl,rfl,rfl,rfl,rfl,rfl,rfl,rfl,rfl,rfl,trivial⟩
theorem inS11:AllT (fun x=>F x.1=some x.2) tS11:=⟨rfl,trivial⟩
theorem inS13:AllT (fun x=>F x.1=some x.2) tS13:=⟨rfl,rfl,rfl,rfl,rfl,rfl,rfl,rfl,rfl,rfl,rfl,rfl,rfl,rfl,rfl,rfl,rfl,rfl,rfl,rfl,rfl,trivial⟩
theorem inWFnStore:AllT (fun x=>F x.1=some x.2) tWFnStore:=⟨rfl,trivial⟩
open Go.Shelf
def ptab:List (Nat×FuncId×PrimF):=[(375,61,(sortF 9 267)),(343,115,(insF 11 40)),(348,143,(delF 11))]
theorem i66:(Tryz.prog.info? 66).isSome=true:=by kernel_rfl
noncomputable def inf66:TypeInfo:=(Tryz.prog.info? 66).get i66
theorem z66:inf66.zero.isSome=true:=by kernel_rfl
noncomputable def zv66:Value:=inf66.zero.get z66
theorem p375:SlLaysF0.n6 Tryz.prog (renS [(6,61),(14,98),(15,99),(20,124),(21,125),(22,126),(23,127),(24,128),(25,129),(26,130),(27,131),(28,132),(29,133),(46,144),(47,145),(48,146),(49,147),(50,148),(57,152)] [(0,0),(3,3),(4,4),(5,5),(9,9),(22,58),(24,66),(25,94),(39,119),(45,142),(46,143),(50,95),(53,149),(55,30),(66,159),(70,163),(76,168),(77,169)]) where
 mixed:=by kernel_rfl
 f6 := ⟨(Tryz.prog.funcs[61]?.map (·.name)).getD "", by kernel_rfl, by kernel_rfl⟩
 f14 := ⟨(Tryz.prog.funcs[98]?.map (·.name)).getD "", by kernel_rfl, by kernel_rfl⟩
 f15:=Tryz.func99.trans (congrArg some (by kernel_rfl))
 f20 := ⟨(Tryz.prog.funcs[124]?.map (·.name)).getD "", by kernel_rfl, by kernel_rfl⟩
 f21 := ⟨(Tryz.prog.funcs[125]?.map (·.name)).getD "", by kernel_rfl, by kernel_rfl⟩
 f22 := ⟨(Tryz.prog.funcs[126]?.map (·.name)).getD "", by kernel_rfl, by kernel_rfl⟩
 f23 := ⟨(Tryz.prog.funcs[127]?.map (·.name)).getD "", by kernel_rfl, by kernel_rfl⟩
 f24 := ⟨(Tryz.prog.funcs[128]?.map (·.name)).getD "", by kernel_rfl, by kernel_rfl⟩
 f25 := ⟨(Tryz.prog.funcs[129]?.map (·.name)).getD "", by kernel_rfl, by kernel_rfl⟩
 f26 := ⟨(Tryz.prog.funcs[130]?.map (·.name)).getD "", by kernel_rfl, by kernel_rfl⟩
 f27 := ⟨(Tryz.prog.funcs[131]?.map (·.name)).getD "", by kernel_rfl, by kernel_rfl⟩
 f28:=Tryz.func132.trans (congrArg some (by kernel_rfl))
 f29:=Tryz.func133.trans (congrArg some (by kernel_rfl))
 f46 := ⟨(Tryz.prog.funcs[144]?.map (·.name)).getD "", by kernel_rfl, by kernel_rfl⟩
 f47:=Tryz.func145.trans (congrArg some (by kernel_rfl))
 f48:=Tryz.func146.trans (congrArg some (by kernel_rfl))
 f49 := ⟨(Tryz.prog.funcs[147]?.map (·.name)).getD "", by kernel_rfl, by kernel_rfl⟩
 f50 := ⟨(Tryz.prog.funcs[148]?.map (·.name)).getD "", by kernel_rfl, by kernel_rfl⟩
 f57 := ⟨(Tryz.prog.funcs[152]?.map (·.name)).getD "", by kernel_rfl, by kernel_rfl⟩
 t0:=Tryz.underlying0
 a0:=Tryz.isAgg0
 z0:=Tryz.sizeOf0
 v0:=Tryz.zeroValue0
 t3:=Tryz.underlying3
 a3:=Tryz.isAgg3
 z3:=Tryz.sizeOf3
 v3:=Tryz.zeroValue3
 t4:=Tryz.underlying4
 a4:=Tryz.isAgg4
 z4:=Tryz.sizeOf4
 v4:=Tryz.zeroValue4
 t5:=Tryz.underlying5
 a5:=Tryz.isAgg5
 z5:=Tryz.sizeOf5
 v5:=Tryz.zeroValue5
 t9:=Tryz.underlying9
 a9:=Tryz.isAgg9
 z9:=Tryz.sizeOf9
 v9:=Tryz.zeroValue9
 t22:=Tryz.underlying58
 a22:=Tryz.isAgg58
 z22:=Tryz.sizeOf58
 v22:=Tryz.zeroValue58
 t25:=Tryz.underlying94
 a25:=Tryz.isAgg94
 z25:=Tryz.sizeOf94
 v25:=Tryz.zeroValue94
 t39:=Tryz.underlying119
 a39:=Tryz.isAgg119
 z39:=Tryz.sizeOf119
 v39:=Tryz.zeroValue119
 t45:=Tryz.underlying142
 a45:=Tryz.isAgg142
 z45:=Tryz.sizeOf142
 v45:=Tryz.zeroValue142
 t46:=Tryz.underlying143
 a46:=Tryz.isAgg143
 z46:=Tryz.sizeOf143
 v46:=Tryz.zeroValue143
 t50:=Tryz.underlying95
 a50:=Tryz.isAgg95
 z50:=Tryz.sizeOf95
 v50:=Tryz.zeroValue95
 t53:=Tryz.underlying149
 a53:=Tryz.isAgg149
 z53:=Tryz.sizeOf149
 v53:=Tryz.zeroValue149
 t55:=Tryz.underlying30
 a55:=Tryz.isAgg30
 z55:=Tryz.sizeOf30
 v55:=Tryz.zeroValue30
 t66:=Tryz.underlying159
 a66:=Tryz.isAgg159
 z66:=Tryz.sizeOf159
 v66:=Tryz.zeroValue159
 t70:=Tryz.underlying163
 a70:=Tryz.isAgg163
 z70:=Tryz.sizeOf163
 v70:=Tryz.zeroValue163
 t76:=Tryz.underlying168
 a76:=Tryz.isAgg168
 z76:=Tryz.sizeOf168
 v76:=Tryz.zeroValue168
 t77:=Tryz.underlying169
 a77:=Tryz.isAgg169
 z77:=Tryz.sizeOf169
 v77:=Tryz.zeroValue169
def c2:CC where
 T:=[(3,⟨1,8,false,some [.int .i64 0],(.int .i64)⟩),
  (30,⟨1,8,false,some [.int .u64 0],(.int .u64)⟩),
  (66,⟨2,16,true,some [.int .i64 0,.int .u64 0],(.struct [(0,1,false),(1,1,false)])⟩),
  (88,⟨1,24,false,some [.nil],(.slice 3 15)⟩)]
 F:=[(62,267),(100,275),(101,273),(102,274),(134,276),(135,277)]
 eqT:=[]
 adds:=[]
def tab2:List (Nat×FuncId×RF):=[(267,62,r267),(275,100,r275),(273,101,r273),(274,102,r274),(276,134,r276),(277,135,r277)]
def tags2:List (Nat×TypeId×Nat):=[(15,3,1)]
theorem qk267:FnOk Tryz.prog c2 F (267,62,r267):=⟨Tryz.f62,[],[[0,1,2,3,5,6,7,8,4,9,10,11,12],[0,1,2,3,4,5,6,7,8,9,10,11,12],[],[]],Tryz.func62,by kernel_rfl,by kernel_rfl,by kernel_rfl⟩
theorem qk275:FnOk Tryz.prog c2 F (275,100,r275):=⟨Tryz.f100,[],[[3,6,7,8]],Tryz.func100,by kernel_rfl,by kernel_rfl,by kernel_rfl⟩
theorem qk273:FnOk Tryz.prog c2 F (273,101,r273):=⟨Tryz.f101,[],[],Tryz.func101,by kernel_rfl,by kernel_rfl,by kernel_rfl⟩
theorem qk274:FnOk Tryz.prog c2 F (274,102,r274):=⟨Tryz.f102,[],[],Tryz.func102,by kernel_rfl,by kernel_rfl,by kernel_rfl⟩
theorem qk276:FnOk Tryz.prog c2 F (276,134,r276):=⟨Tryz.f134,[],[],Tryz.func134,by kernel_rfl,by kernel_rfl,by kernel_rfl⟩
theorem qk277:FnOk Tryz.prog c2 F (277,135,r277):=⟨Tryz.f135,[],[],Tryz.func135,by kernel_rfl,by kernel_rfl,by kernel_rfl⟩
theorem okT2:(c2.T.all fun x=>x.2.okB Tryz.prog (mkCfg Tryz.prog tab2 tags2).ET (mkCfg Tryz.prog tab2 tags2).SZ x.1)=true:=by kernel_rfl
theorem okF2:(c2.F.all fun x=>decide ((lk tab2 x.2).map (·.1)=some x.1))=true:=by kernel_rfl
theorem okTab2:AllT (FnOk Tryz.prog c2 F) tab2:=⟨qk267,qk275,qk273,qk274,qk276,qk277,trivial⟩
theorem prog2 (O:Nat):ProgOk ((mkCfg Tryz.prog tab2 tags2).at O) c2 F (fun _ _ _=>none):=
 mkProg okT2 okF2 okTab2 ⟨⟩ trivial O
theorem cmpF (x y:Int×Int) (W:World):Calls Tryz.prog 62 #[.agg (val2 x).toArray,.agg (val2 y).toArray] W fun e w'=>e= .returned (.int .i64 (cmp2 x y))∧ ∃q os',w'=Sort.grow (W.drewN q) os':=
 fins_calls (prog2 0) (fid:=62) rfl inI13 inLibcmpCompareint inLibcmpCompareuint64 inLibcmpOrint inLibcmpisNaNint inLibcmpisNaNuint64 x y W
theorem i76:(Tryz.prog.info? 76).isSome=true:=by kernel_rfl
noncomputable def inf76:TypeInfo:=(Tryz.prog.info? 76).get i76
theorem z76:inf76.zero.isSome=true:=by kernel_rfl
noncomputable def zv76:Value:=inf76.zero.get z76
theorem p343:Z.InsT Tryz.prog (renI 115 141 142 3 4 76 55) 5 40 zv76 where
 mixed:=by kernel_rfl
 f22 := ⟨(Tryz.prog.funcs[115]?.map (·.name)).getD "", by kernel_rfl, by kernel_rfl⟩
 f29:=⟨Tryz.f141,Tryz.func141,by kernel_rfl,by kernel_rfl,by kernel_rfl,by kernel_rfl⟩
 t3:=by kernel_rfl
 t4:=by kernel_rfl
 t24:=by kernel_rfl
 i9:=⟨inf76,(Option.some_get i76).symm,by kernel_rfl,by kernel_rfl,(Option.some_get z76).symm,by kernel_rfl,by decide⟩
theorem p348:Z.DelT Tryz.prog (renD 143 3 4 76 55) 5 zv76 where
 mixed:=by kernel_rfl
 f45 := ⟨(Tryz.prog.funcs[143]?.map (·.name)).getD "", by kernel_rfl, by kernel_rfl⟩
 t3:=by kernel_rfl
 t4:=by kernel_rfl
 t22:=by kernel_rfl
 i23:=⟨inf76,(Option.some_get i76).symm,by kernel_rfl,by kernel_rfl,by decide,(Option.some_get z76).symm,List.all_eq_true.1 (show (zv76.cells.toList.all (·.oneCell'))=true from by kernel_rfl)⟩
theorem ok386:FnOk Tryz.prog c F (386,4,r386):=⟨Tryz.f4,[],[[3,4,5]],Tryz.func4,by kernel_rfl,by kernel_rfl,by kernel_rfl⟩
theorem ok144:FnOk Tryz.prog c F (144,6,r144):=⟨Tryz.f6,[],[],Tryz.func6,by kernel_rfl,by kernel_rfl,by kernel_rfl⟩
theorem ok384:FnOk Tryz.prog c F (384,7,r384):=⟨Tryz.f7,[],[[2,4,5,6,7,8]],Tryz.func7,by kernel_rfl,by kernel_rfl,by kernel_rfl⟩
theorem ok382:FnOk Tryz.prog c F (382,9,r382):=⟨Tryz.f9,[],[],Tryz.func9,by kernel_rfl,by kernel_rfl,by kernel_rfl⟩
theorem ok385:FnOk Tryz.prog c F (385,10,r385):=⟨Tryz.f10,[],[[2,3,5],[2,7,0,1,3,4,5,6,8,9,10,11],[0,1,2,3,4,5,6,7,8,9,10,11],[],[]],Tryz.func10,by kernel_rfl,by kernel_rfl,by kernel_rfl⟩
theorem ok157:FnOk Tryz.prog c F (157,11,r157):=⟨Tryz.f11,[],[],Tryz.func11,by kernel_rfl,by kernel_rfl,by kernel_rfl⟩
theorem ok381:FnOk Tryz.prog c F (381,12,r381):=⟨Tryz.f12,[],[],Tryz.func12,by kernel_rfl,by kernel_rfl,by kernel_rfl⟩
theorem ok164:FnOk Tryz.prog c F (164,13,r164):=⟨Tryz.f13,[],[[4,5,16,17,18]],Tryz.func13,by kernel_rfl,by kernel_rfl,by kernel_rfl⟩
theorem ok194:FnOk Tryz.prog c F (194,20,r194):=⟨Tryz.f20,[31],[[0,3,4]],Tryz.func20,by kernel_rfl,by kernel_rfl,by kernel_rfl⟩
theorem ok392:FnOk Tryz.prog c F (392,21,r392):=⟨Tryz.f21,[],[[0,6,7,8]],Tryz.func21,by kernel_rfl,by kernel_rfl,by kernel_rfl⟩
theorem ok236:FnOk Tryz.prog c F (236,22,r236):=⟨Tryz.f22,[],[],Tryz.func22,by kernel_rfl,by kernel_rfl,by kernel_rfl⟩
theorem ok238:FnOk Tryz.prog c F (238,23,r238):=⟨Tryz.f23,[],[],Tryz.func23,by kernel_rfl,by kernel_rfl,by kernel_rfl⟩
theorem ok393:FnOk Tryz.prog c F (393,24,r393):=⟨Tryz.f24,[],[[0,3,4,5,6,7],[2,0,1,3,4,5,6,7],[0,1,2,3,4,5,6,7],[],[1,3]],Tryz.func24,by kernel_rfl,by kernel_rfl,by kernel_rfl⟩
theorem ok387:FnOk Tryz.prog c F (387,25,r387):=⟨Tryz.f25,[],[[0,1,2,3,4,5,6],[0,1,2,3,4,5,6],[],[],[0,1,2,3,4,5,6,7],[0,1,2,3,4,5,6,7],[],[],[9,0,1,2,3,4,5,6,7,8,10,11],[0,1,2,3,4,5,6,7,9,10,8,11],[],[],[0,1,2,3,4,5,6,7,8,9,10],[0,1,2,3,4,5,6,7,8,9,10],[],[]],Tryz.func25,by kernel_rfl,by kernel_rfl,by kernel_rfl⟩
theorem ok394:FnOk Tryz.prog c F (394,26,r394):=⟨Tryz.f26,[],[[2,3,5],[2,7,0,1,3,4,5,6,8,9,10],[0,1,2,3,4,5,6,7,8,9,10],[],[]],Tryz.func26,by kernel_rfl,by kernel_rfl,by kernel_rfl⟩
theorem ok206:FnOk Tryz.prog c F (206,27,r206):=⟨Tryz.f27,[],[[1,26,27,28],[0,1,2,3,4,5,6,7,8,9,10,11,12,13,16,17,14,15,18,19,20,21,22,23,24,25],[0,1,2,3,4,5,6,7,8,9,10,11,12,13,14,15,16,17,18,19,20,21,22,23,24,25],[],[]],Tryz.func27,by kernel_rfl,by kernel_rfl,by kernel_rfl⟩
theorem ok317:FnOk Tryz.prog c F (317,28,r317):=⟨Tryz.f28,[],[[1,2,3,4],[4,0,1,2,3,5,6,7,8,9,10,11],[0,1,2,3,4,5,6,7,8,9,10,11],[],[]],Tryz.func28,by kernel_rfl,by kernel_rfl,by kernel_rfl⟩
theorem ok156:FnOk Tryz.prog c F (156,29,r156):=⟨Tryz.f29,[],[[1,3],[0,1,2,3,4,5,6,7,8,9,10,11,12,13,16,17,14,15,18,19,20,21,22,23,24,25],[0,1,2,3,4,5,6,7,8,9,10,11,12,13,14,15,16,17,18,19,20,21,22,23,24,25],[],[]],Tryz.func29,by kernel_rfl,by kernel_rfl,by kernel_rfl⟩
theorem ok5:FnOk Tryz.prog c F (5,30,r5):=⟨Tryz.f30,[],[],Tryz.func30,by kernel_rfl,by kernel_rfl,by kernel_rfl⟩
theorem ok211:FnOk Tryz.prog c F (211,31,r211):=⟨Tryz.f31,[],[[1,2,5]],Tryz.func31,by kernel_rfl,by kernel_rfl,by kernel_rfl⟩
theorem ok228:FnOk Tryz.prog c F (228,32,r228):=⟨Tryz.f32,[],[[1,2,3,4]],Tryz.func32,by kernel_rfl,by kernel_rfl,by kernel_rfl⟩
theorem ok243:FnOk Tryz.prog c F (243,33,r243):=⟨Tryz.f33,[],[[0,3,5],[0,1,2,3,4,5],[0,1,2,3,4,5],[],[]],Tryz.func33,by kernel_rfl,by kernel_rfl,by kernel_rfl⟩
theorem ok323:FnOk Tryz.prog c F (323,34,r323):=⟨Tryz.f34,[],[[1,2,4,6,7,8],[4,0,1,2,3,5,6,7,8,9,10],[0,1,2,3,4,5,6,7,8,9,10],[],[]],Tryz.func34,by kernel_rfl,by kernel_rfl,by kernel_rfl⟩
theorem ok324:FnOk Tryz.prog c F (324,35,r324):=⟨Tryz.f35,[],[[1,2,4,8,9],[4,0,1,2,3,5,6,7,8,9,10],[0,1,2,3,4,5,6,7,8,9,10],[],[]],Tryz.func35,by kernel_rfl,by kernel_rfl,by kernel_rfl⟩
theorem ok325:FnOk Tryz.prog c F (325,36,r325):=⟨Tryz.f36,[],[],Tryz.func36,by kernel_rfl,by kernel_rfl,by kernel_rfl⟩
theorem ok326:FnOk Tryz.prog c F (326,37,r326):=⟨Tryz.f37,[],[],Tryz.func37,by kernel_rfl,by kernel_rfl,by kernel_rfl⟩
theorem ok388:FnOk Tryz.prog c F (388,38,r388):=⟨Tryz.f38,[],[],Tryz.func38,by kernel_rfl,by kernel_rfl,by kernel_rfl⟩
theorem ok389:FnOk Tryz.prog c F (389,39,r389):=⟨Tryz.f39,[],[],Tryz.func39,by kernel_rfl,by kernel_rfl,by kernel_rfl⟩
theorem ok390:FnOk Tryz.prog c F (390,40,r390):=⟨Tryz.f40,[],[],Tryz.func40,by kernel_rfl,by kernel_rfl,by kernel_rfl⟩
theorem ok391:FnOk Tryz.prog c F (391,41,r391):=⟨Tryz.f41,[],[],Tryz.func41,by kernel_rfl,by kernel_rfl,by kernel_rfl⟩
theorem ok328:FnOk Tryz.prog c F (328,42,r328):=⟨Tryz.f42,[],[[1,2,5]],Tryz.func42,by kernel_rfl,by kernel_rfl,by kernel_rfl⟩
theorem ok374:FnOk Tryz.prog c F (374,43,r374):=⟨Tryz.f43,[],[[0,3,5,6,7],[0,1,2,4,5,6,3,7,8,9],[0,1,2,3,4,5,6,7,8,9],[],[]],Tryz.func43,by kernel_rfl,by kernel_rfl,by kernel_rfl⟩
theorem ok209:FnOk Tryz.prog c F (209,44,r209):=⟨Tryz.f44,[],[[4,5,11,12,13]],Tryz.func44,by kernel_rfl,by kernel_rfl,by kernel_rfl⟩
theorem ok396:FnOk Tryz.prog c F (396,51,r396):=⟨Tryz.f51,[],[[2,0,1,3,4,5,6,7,8,9,10],[0,1,2,3,4,5,6,7,8,9,10],[],[1,6],[1,3,0,2,4,5,6,7,8],[0,1,2,3,4,5,6,8,7],[],[0,2],[1,0,2,3,4,5,6,7,8,9],[0,1,2,3,4,5,6,9,7,8],[],[0,3]],Tryz.func51,by kernel_rfl,by kernel_rfl,by kernel_rfl⟩
theorem ok263:FnOk Tryz.prog c F (263,52,r263):=⟨Tryz.f52,[],[[0,1,5,6,2,3,4,7,8,9,10,11,12],[0,1,2,3,4,5,6,7,8,9,10,11,12],[],[],[0,1,4,5,2,3,6,7,8,9],[0,1,2,3,4,5,6,7,8,9],[],[],[0,1,2,5,6,3,4,7,8,9,10,11,12,13,14],[0,1,2,3,4,5,6,7,8,9,10,11,12,13,14],[],[]],Tryz.func52,by kernel_rfl,by kernel_rfl,by kernel_rfl⟩
theorem ok239:FnOk Tryz.prog c F (239,53,r239):=⟨Tryz.f53,[],[],Tryz.func53,by kernel_rfl,by kernel_rfl,by kernel_rfl⟩
theorem ok235:FnOk Tryz.prog c F (235,54,r235):=⟨Tryz.f54,[],[],Tryz.func54,by kernel_rfl,by kernel_rfl,by kernel_rfl⟩
theorem ok237:FnOk Tryz.prog c F (237,55,r237):=⟨Tryz.f55,[],[],Tryz.func55,by kernel_rfl,by kernel_rfl,by kernel_rfl⟩
theorem ok240:FnOk Tryz.prog c F (240,56,r240):=⟨Tryz.f56,[],[],Tryz.func56,by kernel_rfl,by kernel_rfl,by kernel_rfl⟩
theorem ok320:FnOk Tryz.prog c F (320,57,r320):=⟨Tryz.f57,[],[[2,3,12,13,14],[0,1,2,3,4,5,6,7],[0,1,2,3,4,5,6,7],[],[]],Tryz.func57,by kernel_rfl,by kernel_rfl,by kernel_rfl⟩
theorem ok212:FnOk Tryz.prog c F (212,58,r212):=⟨Tryz.f58,[3],[],Tryz.func58,by kernel_rfl,by kernel_rfl,by kernel_rfl⟩
theorem ok266:FnOk Tryz.prog c F (266,59,r266):=⟨Tryz.f59,[],[],Tryz.func59,by kernel_rfl,by kernel_rfl,by kernel_rfl⟩
theorem ok395:FnOk Tryz.prog c F (395,60,r395):=⟨Tryz.f60,[],[],Tryz.func60,by kernel_rfl,by kernel_rfl,by kernel_rfl⟩
theorem ok267:FnOk Tryz.prog c F (267,62,r267):=⟨Tryz.f62,[],[[0,1,2,3,5,6,7,8,4,9,10,11,12],[0,1,2,3,4,5,6,7,8,9,10,11,12],[],[]],Tryz.func62,by kernel_rfl,by kernel_rfl,by kernel_rfl⟩
theorem ok342:FnOk Tryz.prog c F (342,63,r342):=⟨Tryz.f63,[],[[1,2,6],[0,1,2,3,4,5,6,9,13,16,7,8,10,11,12,14,15,17],[0,1,2,3,4,5,6,16,7,8,9,10,11,12,13,14,15,17],[],[]],Tryz.func63,by kernel_rfl,by kernel_rfl,by kernel_rfl⟩
theorem ok397:FnOk Tryz.prog c F (397,64,r397):=⟨Tryz.f64,[],[[2,3,5],[2,7,0,1,3,4,5,6,8,9,10],[0,1,2,3,4,5,6,7,8,9,10],[],[]],Tryz.func64,by kernel_rfl,by kernel_rfl,by kernel_rfl⟩
theorem ok7:FnOk Tryz.prog c F (7,65,r7):=⟨Tryz.f65,[],[],Tryz.func65,by kernel_rfl,by kernel_rfl,by kernel_rfl⟩
theorem ok244:FnOk Tryz.prog c F (244,66,r244):=⟨Tryz.f66,[],[[1,46,47,48],[1,76,77,78],[0,1,2,3,4,5,6,7,8,9,10,11,12,13,14,15,16,17,18,19,20,23,24,21,22,25,26,27,28,29,30,31],[0,1,2,3,4,5,6,7,8,9,10,11,12,13,14,15,16,17,18,19,20,21,22,23,24,25,26,27,28,29,30,31],[],[]],Tryz.func66,by kernel_rfl,by kernel_rfl,by kernel_rfl⟩
theorem ok204:FnOk Tryz.prog c F (204,67,r204):=⟨Tryz.f67,[],[[1,3],[0,1,2,3,4,5,6,7,8,9,10,11,12,13,14,15,16,17,18,19,20,23,24,21,22,25,26,27,28,29,30,31],[0,1,2,3,4,5,6,7,8,9,10,11,12,13,14,15,16,17,18,19,20,21,22,23,24,25,26,27,28,29,30,31],[],[],[1,5]],Tryz.func67,by kernel_rfl,by kernel_rfl,by kernel_rfl⟩
theorem ok259:FnOk Tryz.prog c F (259,68,r259):=⟨Tryz.f68,[],[[1,2,3,4],[4,0,1,2,3,5,6,7,8,9,10],[0,1,2,3,4,5,6,7,8,9,10],[],[]],Tryz.func68,by kernel_rfl,by kernel_rfl,by kernel_rfl⟩
theorem ok241:FnOk Tryz.prog c F (241,69,r241):=⟨Tryz.f69,[],[[1,3],[0,1,2,5,6,3,4,7,8,9,10,11,12,13,14,15,16,17,18,19,20,21,22,23,24,25,26,27,28,29,30,31,32,33],[0,1,2,3,4,5,6,7,8,9,10,11,12,13,14,15,16,17,18,19,20,21,22,23,24,25,26,27,28,29,30,31,32,33],[],[]],Tryz.func69,by kernel_rfl,by kernel_rfl,by kernel_rfl⟩
theorem ok335:FnOk Tryz.prog c F (335,70,r335):=⟨Tryz.f70,[],[],Tryz.func70,by kernel_rfl,by kernel_rfl,by kernel_rfl⟩
theorem ok336:FnOk Tryz.prog c F (336,71,r336):=⟨Tryz.f71,[],[[3,4,5,6],[2,0,1,3,4,5,6,7,8],[0,1,2,3,4,5,6,7,8],[],[]],Tryz.func71,by kernel_rfl,by kernel_rfl,by kernel_rfl⟩
theorem ok242:FnOk Tryz.prog c F (242,72,r242):=⟨Tryz.f72,[],[],Tryz.func72,by kernel_rfl,by kernel_rfl,by kernel_rfl⟩
theorem ok311:FnOk Tryz.prog c F (311,80,r311):=⟨Tryz.f80,[],[[1,2,3,6,8,9,10],[5,6,7,0,1,2,3,4,8,9,10,11,12],[0,1,2,3,4,5,6,7,8,9,10,11,12],[],[],[3,6,0,1,2,4,5,7,8,9,10,11],[0,1,2,3,4,5,6,7,8,9,10,11],[],[],[0,1,2,3,4,5,6,7],[0,1,2,3,4,5,6,7],[],[]],Tryz.func80,by kernel_rfl,by kernel_rfl,by kernel_rfl⟩
theorem ok271:FnOk Tryz.prog c F (271,81,r271):=⟨Tryz.f81,[],[],Tryz.func81,by kernel_rfl,by kernel_rfl,by kernel_rfl⟩
theorem ok364:FnOk Tryz.prog c F (364,82,r364):=⟨Tryz.f82,[],[[11,12,2,3,8,0,1,4,5,6,7,9,10,13,14],[0,1,2,3,4,5,11,12,13,6,7,8,9,10,14],[9],[],[2,3,6,8,10,11,12],[6,0,1,2,3,4,5,7,8,9,10,11,12,13],[0,1,2,3,4,5,6,7,8,9,10,11,12,13],[],[],[2,3,6,8,10,11,13],[4,0,1,2,3,5,6,7,8,9],[0,1,2,3,4,5,6,7,8,9],[],[],[2,3,6,8,11,14,15],[4,0,1,2,3,5,6,7,8,9,10,11],[0,1,2,3,4,5,6,7,8,9,10,11],[],[]],Tryz.func82,by kernel_rfl,by kernel_rfl,by kernel_rfl⟩
theorem ok290:FnOk Tryz.prog c F (290,83,r290):=⟨Tryz.f83,[],[],Tryz.func83,by kernel_rfl,by kernel_rfl,by kernel_rfl⟩
theorem ok300:FnOk Tryz.prog c F (300,84,r300):=⟨Tryz.f84,[],[],Tryz.func84,by kernel_rfl,by kernel_rfl,by kernel_rfl⟩
theorem ok264:FnOk Tryz.prog c F (264,85,r264):=⟨Tryz.f85,[],[[0,3,4]],Tryz.func85,by kernel_rfl,by kernel_rfl,by kernel_rfl⟩
theorem ok229:FnOk Tryz.prog c F (229,86,r229):=⟨Tryz.f86,[],[],Tryz.func86,by kernel_rfl,by kernel_rfl,by kernel_rfl⟩
theorem ok248:FnOk Tryz.prog c F (248,87,r248):=⟨Tryz.f87,[],[[0,1,7,8]],Tryz.func87,by kernel_rfl,by kernel_rfl,by kernel_rfl⟩
theorem ok247:FnOk Tryz.prog c F (247,88,r247):=⟨Tryz.f88,[],[],Tryz.func88,by kernel_rfl,by kernel_rfl,by kernel_rfl⟩
theorem ok272:FnOk Tryz.prog c F (272,89,r272):=⟨Tryz.f89,[],[[0,3,7,8],[1,2,3,0,4,5],[0,1,2,3,4,5],[],[]],Tryz.func89,by kernel_rfl,by kernel_rfl,by kernel_rfl⟩
theorem ok337:FnOk Tryz.prog c F (337,90,r337):=⟨Tryz.f90,[],[],Tryz.func90,by kernel_rfl,by kernel_rfl,by kernel_rfl⟩
theorem ok338:FnOk Tryz.prog c F (338,91,r338):=⟨Tryz.f91,[],[],Tryz.func91,by kernel_rfl,by kernel_rfl,by kernel_rfl⟩
theorem ok339:FnOk Tryz.prog c F (339,92,r339):=⟨Tryz.f92,[5],[],Tryz.func92,by kernel_rfl,by kernel_rfl,by kernel_rfl⟩
theorem ok340:FnOk Tryz.prog c F (340,93,r340):=⟨Tryz.f93,[5],[],Tryz.func93,by kernel_rfl,by kernel_rfl,by kernel_rfl⟩
theorem ok398:FnOk Tryz.prog c F (398,94,r398):=⟨Tryz.f94,[6,7],[],Tryz.func94,by kernel_rfl,by kernel_rfl,by kernel_rfl⟩
theorem ok399:FnOk Tryz.prog c F (399,95,r399):=⟨Tryz.f95,[6,7],[],Tryz.func95,by kernel_rfl,by kernel_rfl,by kernel_rfl⟩
theorem ok400:FnOk Tryz.prog c F (400,96,r400):=⟨Tryz.f96,[4,5],[],Tryz.func96,by kernel_rfl,by kernel_rfl,by kernel_rfl⟩
theorem ok401:FnOk Tryz.prog c F (401,97,r401):=⟨Tryz.f97,[4,5],[],Tryz.func97,by kernel_rfl,by kernel_rfl,by kernel_rfl⟩
theorem ok275:FnOk Tryz.prog c F (275,100,r275):=⟨Tryz.f100,[],[[3,6,7,8]],Tryz.func100,by kernel_rfl,by kernel_rfl,by kernel_rfl⟩
theorem ok273:FnOk Tryz.prog c F (273,101,r273):=⟨Tryz.f101,[],[],Tryz.func101,by kernel_rfl,by kernel_rfl,by kernel_rfl⟩
theorem ok274:FnOk Tryz.prog c F (274,102,r274):=⟨Tryz.f102,[],[],Tryz.func102,by kernel_rfl,by kernel_rfl,by kernel_rfl⟩
theorem ok265:FnOk Tryz.prog c F (265,103,r265):=⟨Tryz.f103,[],[[1,10,11,12],[0,1,2,3,4,5,6,7,8,9,10,11,12,13,14,15,16,17,18,19,20,21,22,23,24,25,26,27,30,31,28,29,32,33,34,35,36,37,38,39],[0,1,2,3,4,5,6,7,8,9,10,11,12,13,14,15,16,17,18,19,20,21,22,23,24,25,26,27,28,29,30,31,32,33,34,35,36,37,38,39],[],[]],Tryz.func103,by kernel_rfl,by kernel_rfl,by kernel_rfl⟩
theorem ok316:FnOk Tryz.prog c F (316,110,r316):=⟨Tryz.f110,[],[],Tryz.func110,by kernel_rfl,by kernel_rfl,by kernel_rfl⟩
theorem ok333:FnOk Tryz.prog c F (333,111,r333):=⟨Tryz.f111,[],[[1,2,4,8,9,10],[6,0,1,2,3,4,5,7,8,9,10,11,12,13],[0,1,2,3,4,5,6,7,8,9,10,11,12,13],[],[],[1,2,4,8,9,11],[4,0,1,2,3,5,6,7,8,9,10],[0,1,2,3,4,5,6,7,8,9,10],[],[]],Tryz.func111,by kernel_rfl,by kernel_rfl,by kernel_rfl⟩
theorem ok318:FnOk Tryz.prog c F (318,112,r318):=⟨Tryz.f112,[],[[1,4,5,6]],Tryz.func112,by kernel_rfl,by kernel_rfl,by kernel_rfl⟩
theorem ok210:FnOk Tryz.prog c F (210,113,r210):=⟨Tryz.f113,[],[[1,2,3,7]],Tryz.func113,by kernel_rfl,by kernel_rfl,by kernel_rfl⟩
theorem ok260:FnOk Tryz.prog c F (260,114,r260):=⟨Tryz.f114,[],[],Tryz.func114,by kernel_rfl,by kernel_rfl,by kernel_rfl⟩
theorem ok345:FnOk Tryz.prog c F (345,116,r345):=⟨Tryz.f116,[],[],Tryz.func116,by kernel_rfl,by kernel_rfl,by kernel_rfl⟩
theorem ok344:FnOk Tryz.prog c F (344,117,r344):=⟨Tryz.f117,[],[],Tryz.func117,by kernel_rfl,by kernel_rfl,by kernel_rfl⟩
theorem ok346:FnOk Tryz.prog c F (346,118,r346):=⟨Tryz.f118,[],[[0,1,6,7,2,3,4,5,8,9,10],[0,1,2,3,4,5,6,7,8,9,10],[],[],[0,1,2,3,4,5,6,7,8],[0,1,2,3,4,5,6,7,8],[],[]],Tryz.func118,by kernel_rfl,by kernel_rfl,by kernel_rfl⟩
theorem ok347:FnOk Tryz.prog c F (347,119,r347):=⟨Tryz.f119,[],[[0,1,2,3,4,5],[0,1,2,3,4,5],[],[],[0,1,2,3,4,5,6,7,8],[0,1,2,3,4,5,6,7,8],[],[]],Tryz.func119,by kernel_rfl,by kernel_rfl,by kernel_rfl⟩
theorem ok402:FnOk Tryz.prog c F (402,120,r402):=⟨Tryz.f120,[],[[0,1,2,3,4,5],[0,1,2,3,4,5],[],[],[0,1,2,3,4,5,6,7,8],[0,1,2,3,4,5,6,7,8],[],[]],Tryz.func120,by kernel_rfl,by kernel_rfl,by kernel_rfl⟩
theorem ok403:FnOk Tryz.prog c F (403,121,r403):=⟨Tryz.f121,[],[[0,1,6,7,2,3,4,5,8,9,10],[0,1,2,3,4,5,6,7,8,9,10],[],[]],Tryz.func121,by kernel_rfl,by kernel_rfl,by kernel_rfl⟩
theorem ok404:FnOk Tryz.prog c F (404,122,r404):=⟨Tryz.f122,[],[[0,1,2,3,4,5],[0,1,2,3,4,5],[],[],[0,2,3,6,7,1,4,5,8,9,10,11,12,13],[0,1,2,3,4,5,6,7,8,9,10,11,12,13],[],[]],Tryz.func122,by kernel_rfl,by kernel_rfl,by kernel_rfl⟩
theorem ok405:FnOk Tryz.prog c F (405,123,r405):=⟨Tryz.f123,[],[[0,1,2,3,4,5],[0,1,2,3,4,5],[],[],[0,2,3,6,7,1,4,5,8,9,10,11,12,13],[0,1,2,3,4,5,6,7,8,9,10,11,12,13],[],[]],Tryz.func123,by kernel_rfl,by kernel_rfl,by kernel_rfl⟩
theorem ok276:FnOk Tryz.prog c F (276,134,r276):=⟨Tryz.f134,[],[],Tryz.func134,by kernel_rfl,by kernel_rfl,by kernel_rfl⟩
theorem ok277:FnOk Tryz.prog c F (277,135,r277):=⟨Tryz.f135,[],[],Tryz.func135,by kernel_rfl,by kernel_rfl,by kernel_rfl⟩
theorem okT:(c.T.all fun x=>x.2.okB Tryz.prog (mkCfgZ Tryz.prog tab ptab tags).ET (mkCfgZ Tryz.prog tab ptab tags).SZ x.1)=true:=by kernel_rfl
theorem okF:(c.F.all fun x=>decide ((mkCfgZ Tryz.prog tab ptab tags).G x.2=some x.1))=true:=by kernel_rfl
theorem okTab:AllT (FnOk Tryz.prog c F) tab:=⟨ok386,ok144,ok384,ok382,ok385,ok157,ok381,ok164,ok194,ok392,ok236,ok238,ok393,ok387,ok394,ok206,ok317,ok156,ok5,ok211,ok228,ok243,ok323,ok324,ok325,ok326,ok388,ok389,ok390,ok391,ok328,ok374,ok209,ok396,ok263,ok239,ok235,ok237,ok240,ok320,ok212,ok266,ok395,ok267,ok342,ok397,ok7,ok244,ok204,ok259,ok241,ok335,ok336,ok242,ok311,ok271,ok364,ok290,ok300,ok264,ok229,ok248,ok247,ok272,ok337,ok338,ok339,ok340,ok398,ok399,ok400,ok401,ok275,ok273,ok274,ok265,ok316,ok333,ok318,ok210,ok260,ok345,ok344,ok346,ok347,ok402,ok403,ok404,ok405,ok276,ok277,trivial⟩
theorem okP:AllT (PFn Tryz.prog F) ptab:=⟨⟨⟨Tryz.f61,Tryz.func61,by kernel_rfl,by kernel_rfl⟩,rfl,step_sort _ _⟩,⟨⟨Tryz.f115,Tryz.func115,by kernel_rfl,by kernel_rfl⟩,rfl,step_ins _ _⟩,⟨⟨Tryz.f143,Tryz.func143,by kernel_rfl,by kernel_rfl⟩,rfl,step_del _⟩,trivial⟩
theorem prog (O:Nat):ProgOk ((mkCfgZ Tryz.prog tab ptab tags).at O) c F (primZ ptab):=
 mkProgZ okT okF okTab okP ⟨⟨Tryz.f45,Tryz.func45,by kernel_rfl,by kernel_rfl,by kernel_rfl,by kernel_rfl⟩,trivial⟩ ⟨⟨by kernel_rfl,by kernel_rfl,by kernel_rfl⟩,⟨by kernel_rfl,by kernel_rfl,by kernel_rfl⟩,trivial⟩ O ⟨sort_sound (ρ:=(renS [(6,61),(14,98),(15,99),(20,124),(21,125),(22,126),(23,127),(24,128),(25,129),(26,130),(27,131),(28,132),(29,133),(46,144),(47,145),(48,146),(49,147),(50,148),(57,152)] [(0,0),(3,3),(4,4),(5,5),(9,9),(22,58),(24,66),(25,94),(39,119),(45,142),(46,143),(50,95),(53,149),(55,30),(66,159),(70,163),(76,168),(77,169)])) (g:=62) rfl p375 Tryz.isAgg66 Tryz.sizeOf66 rfl (fun args w=>enter_run (prog2 0).cc (g:=267) rfl args) cmpF,ins_ok (ρ:=renI 115 141 142 3 4 76 55) (k:=5) rfl rfl p343,del_ok (ρ:=renD 143 3 4 76 55) (k:=5) rfl rfl p348,trivial⟩
theorem pr375:PrimAt F (primZ ptab) 375 (sortF 9 267):=primAt (ptab:=ptab) (n:=375) (x:=(61,(sortF 9 267))) rfl rfl
theorem pr343:PrimAt F (primZ ptab) 343 (insF 11 40):=primAt (ptab:=ptab) (n:=343) (x:=(115,(insF 11 40))) rfl rfl
theorem pr348:PrimAt F (primZ ptab) 348 (delF 11):=primAt (ptab:=ptab) (n:=348) (x:=(143,(delF 11))) rfl rfl
end Go.Proofs.YtahkgghifaodoaaGreat.A.Store
namespace Go.Proofs.YtahkgghifaodoaaGreat.A
open Go
set_option linter.unusedSimpArgs false
set_option linter.unusedVariables false
section
variable {F:Nat→Option RF} {Z:CallF} {g h h1 h2 h3 h4 h5 h6:Heap}
set_option maxHeartbeats 2000000 in
theorem store_turn (k:KI F) (ks:KS F) (hLLS:Has F tLStore) (hLSh:Has F tLShard) (hLB:Has F tLBook) (hL:Has F tLibslicesIndexFuncimplShardimplShard) (pri:PrimAt F Z 343 (insF 11 40)) (prd:PrimAt F Z 348 (delF 11)) (prs:PrimAt F Z 375 (sortF 9 267))
 {y:Cell} {qs:List Request} {cs:List Cell} {fp fy:List Nat} {s:Store} (hf:h.floor≤h.next)
 (l:SlR 3 (Fl Request.enc) h y qs fy) (hql:qs.length≤1000) (okqs: ∀q,q∈qs→q.Ok) (w:Store.RI h cs s fp) (g:SGood s) {i:Nat} (hi:i<qs.length):
 ∃(s':Store) (cs':List Cell) (h':Heap) (fp':List Nat),loop F Z [3,4,5] r386L0 ⟨[(4,.c y),(5,.c (.int .i64 (i:Nat)))],[(3,3,0)],[(3,cs)],h⟩=loop F Z [3,4,5] r386L0 ⟨[(4,.c y),(5,.c (.int .i64 ((i+1:Nat):Int)))],[(3,3,0)],[(3,cs')],h'⟩∧
  On h h'∧Store.RI h' cs' s' fp'∧SGood s':=by
 have okq:=okqs _ (List.getElem_mem hi)
 obtain ⟨q,hq⟩: ∃q,qs[i]=q:=⟨_,rfl⟩
 rw[hq] at okq
 have ok2:({q with epoch:=IntKind.i64.wrap (q.epoch+1)}:Request).Ok:=⟨wrapI_in' _,okq.op,okq.id,okq.amount,okq.tx⟩
 have g1:=g.done okq
 obtain ⟨cs1,h1,f1,e2,o1,v1,_⟩:=DoStore_c (Z:=Z) k hL pri prd prs hf w q okq g.ok g.small
 have w1:=Store.okI.on w o1
 obtain ⟨cs2,h2,f2,e3,o2,v2,_⟩:=sDoStore_c (Z:=Z) ks (o1.le hf) w1 q okq g.ok g.small
 have v1b:=Store.okI.on v1 o2
 obtain ⟨h3,e4,o3⟩:=StoreOk_c (Z:=Z) k ((o1.trans o2).le hf) v1b g1.ok
 rw[(Store.good_iff _).2 g1.good] at e4
 have v1c:=Store.okI.on v1b o3
 have v2c:=Store.okI.on v2 o3
 have o123:=(o1.trans o2).trans o3
 have w3:=Store.okI.on w o123
 have e5:=sameStore_r (Z:=Z) hLLS hLSh hLB v1c v2c
 simp only[decide_true] at e5
 have e6:=sameStore_r (Z:=Z) hLLS hLSh hLB v1c w3
 obtain ⟨cs4,h4,f4,e7,o4,v4,_⟩:=DoStore_c (Z:=Z) k hL pri prd prs (o123.le hf) w3 {q with epoch:=IntKind.i64.wrap (q.epoch+1)} ok2 g.ok g.small
 have w4:=Store.okI.on w3 o4
 have v1d:=Store.okI.on v1c o4
 have e8:=sameStore_r (Z:=Z) hLLS hLSh hLB v4 w4
 have o1234:=o123.trans o4
 obtain ⟨h5,e9,o5⟩:=StoreTotal_c (Z:=Z) k (o1234.le hf) w4 g.ok
 have v1e:=Store.okI.on v1d o5
 obtain ⟨h6,e10,o6⟩:=StoreTotal_c (Z:=Z) k ((o1234.trans o5).le hf) v1e g1.ok
 have v1f:=Store.okI.on v1e o6
 have t0:storeTotal s=(wHi s.money,wLo s.money):=by unfold storeTotal;rw[(Store.good_iff _).2 g.good];rfl
 have t1:storeTotal (doStore s q).1=(wHi (doStore s q).1.money,wLo (doStore s q).1.money):=by unfold storeTotal;rw[(Store.good_iff _).2 g1.good];rfl
 rw[t0] at e9
 rw[t1] at e10
 obtain ⟨n2a,n2b,n2c⟩:=Store.lenI v2
 obtain ⟨n4a,n4b,n4c⟩:=Store.lenI v4
 have hseen:(doStore s q).1.seen=s.seen:=seen_do g.good q
 have hSt:=fun h8 h11 h9=>store_stale (s:=s) (q:=q) (e:=IntKind.i64.wrap (q.epoch+1)) (wrap_next _ okq.epoch) h8 h11 h9
 obtain ⟨hC1,hC2⟩:=store_case (q:=q) g okq
 obtain ⟨zz,_,hcs,_,_⟩:=w
 obtain ⟨zz1,_,hcs1,_,_⟩:=v1
 subst hcs hcs1
 rw[hseen] at e2 e4 e5 e6 e10 v1f
 refine ⟨(doStore s q).1,[.int .i64 (doStore s q).1.group,.int .i64 s.seen,zz1],h6,f1,?_,(o1234.trans o5).trans o6,v1f,g1⟩
 refine store_run (qe:=q.epoch) (qo:=q.op) (qi:=q.id) (qa:=q.amount) (qt:=q.tx) (M:=s.money) (M':=(doStore s q).1.money) (bN:=decide ((doStore s q).1=s)) (bS:=decide ((doStore s {q with epoch:=IntKind.i64.wrap (q.epoch+1)}).1=s)) l hi hql hq ⟨n2a,n2b,n2c⟩ ⟨n4a,n4b,n4c⟩ e2 e3 e4 e5 e6 e7 e8 e9 e10 ?_ ?_ ?_ okq.amount
 ·intro hx
  obtain ⟨x1,x2,x3⟩:=hC1 hx
  exact ⟨x1,fun n6 n7=>by simp[x2 n6 n7],x3⟩
 ·intro hx h6;exact hC2 hx h6
 ·intro h8 h11 h9
  obtain ⟨x1,x2⟩:=hSt h8 h11 h9
  exact ⟨by simp[x1],x2⟩
set_option maxHeartbeats 2000000 in
theorem law_Store (hI10:Has F tI10) (hI11:Has F tI11) (hI13:Has F tI13) (hLBook:Has F tLBook) (hLShard:Has F tLShard) (hLStore:Has F tLStore) (hLaws:Has F tLaws) (hLibcmpCompareint:Has F tLibcmpCompareint) (hLibcmpCompareuint64:Has F tLibcmpCompareuint64) (hLibcmpOrint:Has F tLibcmpOrint) (hLibcmpisNaNint:Has F tLibcmpisNaNint) (hLibcmpisNaNuint64:Has F tLibcmpisNaNuint64) (hLibslicesContainsimplFinimplFin:Has F tLibslicesContainsimplFinimplFin) (hLibslicesIndexFuncimplShardimplShard:Has F tLibslicesIndexFuncimplShardimplShard) (hLibslicesIndeximplFinimplFin:Has F tLibslicesIndeximplFinimplFin) (hS01d:Has F tS01d) (hS10:Has F tS10) (hS11:Has F tS11) (hS13:Has F tS13) (hWFnStore:Has F tWFnStore) (pr343:PrimAt F Z 343 (insF 11 40)) (pr348:PrimAt F Z 348 (delF 11)) (pr375:PrimAt F Z 375 (sortF 9 267))
 (h:Heap) (avs:List V) (hfl:h.floor=h.next) (w:ArgsWf h 8 [shUint8S] avs): ∃h',call F Z 386 avs h=some (.c (.bool true),h'):=by
 obtain ⟨x,_,rfl,xw,w1⟩:=ArgsWf.slice w
 obtain ⟨code,v,hby⟩:=Wf.areBytes xw
 obtain rfl:=w1.nil
 have f0:h.floor≤h.next:=by omega
 have k:KI F:=⟨hI10,hI11,hI13,hLibcmpCompareint,hLibcmpCompareuint64,hLibcmpOrint,hLibcmpisNaNint,hLibcmpisNaNuint64,hLibslicesIndeximplFinimplFin,hLibslicesContainsimplFinimplFin⟩
 rw[call_run F Z (hWFnStore.lk (g:=386) rfl) _ _ rfl]
 have hb:=big_run (Z:=Z) hLaws v
 by_cases hbig:(code.length:Int)>1048576
 ·rw[decide_eq_true hbig] at hb
  simp only[rn,RO.dst,lk,drop,Nat.reduceBEq,Nat.reduceAdd,Nat.reduceLeDiff,↓reduceIte,reduceCtorEq,hb]
  exact ⟨_,rfl⟩
 rw[decide_eq_false hbig] at hb
 obtain ⟨s,qs,cs,y,g,fp,fy,e1,o1,v1,_,l1,_,sg,_,_,_,_,lw,okqs,hql⟩:=DrawRightStore_c (Z:=Z) ⟨hS01d,hS10,hS13⟩ hS11 f0 v
 obtain ⟨n1,n2,n3⟩:=Store.lenI v1
 obtain ⟨g1,e2,o2⟩:=StoreOk_c (Z:=Z) k (o1.le f0) v1 sg.ok
 rw[(Store.good_iff _).2 sg.good] at e2
 have v2:=Store.okI.on v1 o2
 have l2:=l1.on (Fl.ok _) o2
 have o12:=o1.trans o2
 obtain ⟨s',⟨s2,cs2,g2,fp2,hst,o3,v3,sg2⟩,lp⟩:=loop_goes (F:=F) (Z:=Z) (live:=[3,4,5]) (b:=r386L0) qs.length (fun i st=> ∃(s:Store) (cs:List Cell) (g':Heap) (fp:List Nat),st=⟨[(4,.c y),(5,.c (.int .i64 (i:Nat)))],[(3,3,0)],[(3,cs)],g'⟩∧On g1 g'∧Store.RI g' cs s fp∧SGood s) (fun i st hi ⟨s,cs,g',fp,hst,o,w,sg⟩=>by
  subst hst
  obtain ⟨s',cs',h',fp',eq,o',w',sg'⟩:=store_turn (Z:=Z) k ⟨hS01d,hS10,hS13⟩ hLStore hLShard hLBook hLibslicesIndexFuncimplShardimplShard pr343 pr348 pr375 ((o12.trans o).le f0) (l2.on (Fl.ok _) o) (by omega) okqs w sg hi
  exact ⟨_,⟨s',cs',h',fp',rfl,o.trans o',w',sg'⟩,eq⟩) (s:=⟨[(4,.c y),(5,.c (.int .i64 ((0:Nat):Int)))],[(3,3,0)],[(3,cs)],g1⟩) ⟨s,cs,g1,fp,rfl,On.refl g1,v2,sg⟩
 subst hst
 simp only[show ((0:Nat):Int)=0 from rfl] at lp
 have hlen:=(l2.on (Fl.ok _) o3).len
 simp only[rn,RO.dst,lk,drop,Nat.reduceBEq,Nat.reduceAdd,Nat.reduceLeDiff,↓reduceIte,reduceCtorEq,List.replicate_succ,List.replicate_zero,fills,and_self,List.set_cons_zero,List.set_cons_succ,Nat.reduceLT,Nat.zero_lt_succ,Nat.zero_lt_one,hb,e1,n1,n2,n3,e2,lp]
 rw[loop_run]
 conv in (codeF _ _ r386L0 _)=>unfold r386L0
 have hlt: ¬((qs.length:Nat):Int)<qs.length:=by omega
 simp only[rn,RO.dst,lk,drop,Nat.reduceBEq,Nat.reduceAdd,Nat.reduceLeDiff,↓reduceIte,reduceCtorEq,hlen,hlt]
 exact ⟨_,rfl⟩
end
end Go.Proofs.YtahkgghifaodoaaGreat.A
namespace Go.Proofs.YtahkgghifaodoaaGreat.A.Store
open Go Go.ChangeShapes Go.WideShapes Go.ChangeAt Go.RowKit
theorem own:ownKnob Tryz.prog.godebug=none:=by kernel_rfl
set_option maxRecDepth 100000 in
theorem lifted (os:Os) (started:os.Started) (H:Type) (enc:TypeId×Value→H):
 ReturnsInHanded {} Tryz.checked os 4 .any (Rows.fnStoreSpec.pre6 enc Tryz.prog Tryz.f4 Rows.fnStoreRow.domain false) (Rows.fnStoreSpec.post enc Tryz.prog Tryz.f4 false true false false):=by
 refine returnsInHanded_of_change_sized (C:=Tryz.checked) own started (by kernel_rfl) Tryz.func4
  (ChangeSpec.witness6 (enc:=enc) (C:=Tryz.checked) false ⟨#[],#[.slice none 0 0],[]⟩ 8 (by kernel_rfl) (by kernel_rfl) (by kernel_rfl) (by kernel_rfl)) ?_
 intro W base args ds gs before hval hW _ _ _
 have hW':=hW
 obtain ⟨p,q,hA,hV,rfl,hfz,hnd⟩:=hW
 obtain ⟨rfl,rfl⟩:=trodVars_none hV
 have r0:DataW.TrodAll enc Tryz.prog W 0 (fun _=>true) true [22] args.toList ds p:=hA
 obtain ⟨_,_,d0,_,_,_,_,rfl,_,_,r1⟩:=trodAll_cons r0
 obtain ⟨_,rfl,_⟩:=trodAll_nil r1
 refine (law_calls (ts:=[22]) (ss:=[shUint8S]) prog (show (mkCfgZ Tryz.prog tab ptab tags).G 386=some 4 from by kernel_rfl) ⟨show shIs Tryz.prog (mkCfgZ Tryz.prog tab ptab tags).ET (mkCfgZ Tryz.prog tab ptab tags).SZ 8 22 shUint8S=true from by kernel_rfl,trivial⟩ (law_Store inI10 inI11 inI13 inLBook inLShard inLStore inLaws inLibcmpCompareint inLibcmpCompareuint64 inLibcmpOrint inLibcmpisNaNint inLibcmpisNaNuint64 inLibslicesContainsimplFinimplFin inLibslicesIndexFuncimplShardimplShard inLibslicesIndeximplFinimplFin inS01d inS10 inS11 inS13 inWFnStore pr343 pr348 pr375) (fun j t v h1=>hval j t v (by rw[Tryz.params4];exact (List.getElem?_toArray ..).trans h1)) hA).mono fun e W' ⟨he,bel⟩=> ?_
 subst he
 exact ⟨_,rfl,_,_,_,[],_,[],hW',trodAll_mk1 (shut_bool Tryz.underlying4 _),trodAll_below (by kernel_rfl) bel _ _ _ _ (by kernel_rfl) hA hA.lt,rfl,bel.frame _,fun h=>by cases h⟩
theorem over:Rows.fnStoreRow.holds Tryz.pinned (OpenSpec.ofChange Rows.fnStoreSpec):=
 OpenClaim.holds_of_wide 4 Tryz.f4 rfl rfl rfl rfl rfl rfl rfl ⟨rfl,rfl,rfl,rfl,rfl⟩ rfl rfl rfl rfl rfl (by kernel_rfl) Tryz.func4 (by kernel_rfl)
  (of_decide_eq_true (by kernel_rfl)) (by unfold Func.isWrapper;first | (rw[if_pos (by decide+kernel)];kernel_rfl) | (rw[if_neg (by decide+kernel)];exact ⟨rfl,rfl⟩))
  (fun os started H enc _=>lifted os started H enc)
end Go.Proofs.YtahkgghifaodoaaGreat.A.Store
namespace Go.Proofs.YtahkgghifaodoaaGreat
/-- The row. -/
theorem fnStore_holds:Rows.FnStoreSaid:=A.Store.over
#print axioms fnStore_holds
end Go.Proofs.YtahkgghifaodoaaGreat
