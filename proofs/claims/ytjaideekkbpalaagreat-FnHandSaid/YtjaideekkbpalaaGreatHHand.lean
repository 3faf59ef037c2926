/- FnHand: the statement, from the law of the abstract run. No condition. -/
import Derived.Test.YtjaideekkbpalaaGreatHCHand4
import Derived.Test.YtjaideekkbpalaaGreatB6
import Derived.Test.YtjaideekkbpalaaGreatZ7
import Derived.Test.YtjaideekkbpalaaGreatProg
import Derived.Test.YtjaideekkbpalaaGreatRows
import Derived.ProofKit
import Derived.OpenShut
import Derived.ShutString
import Derived.ChangeOld
import Derived.Below
import Derived.SizedLaws
namespace Go.Proofs.YtjaideekkbpalaaGreat.A.Hand
open Go
set_option maxRecDepth 100000
def c:CC where
 T:=[(3,⟨1,8,false,some [.int .i64 0],(.int .i64)⟩),
  (4,⟨1,1,false,some [.bool false],.bool⟩),
  (5,⟨1,1,false,some [.int .u8 0],(.int .u8)⟩),
  (22,⟨1,24,false,some [.nil],(.slice 5 19)⟩),
  (24,⟨1,8,false,some [.int .u64 0],(.int .u64)⟩),
  (26,⟨5,40,true,some [.int .u64 0,.int .i64 0,.int .i64 0,.int .i64 0,.int .i64 0],(.struct [(0,1,false),(1,1,false),(2,1,false),(3,1,false),(4,1,false)])⟩),
  (27,⟨1,24,false,some [.nil],(.slice 47 16)⟩),
  (29,⟨3,40,true,some [.int .i64 0,.int .i64 0,.nil],(.struct [(0,1,false),(1,1,false),(2,1,false)])⟩),
  (30,⟨1,24,false,some [.nil],(.slice 3 15)⟩),
  (35,⟨1,24,false,some [.nil],(.slice 29 18)⟩),
  (36,⟨1,24,false,some [.nil],(.slice 24 13)⟩),
  (42,⟨1,24,false,some [.nil],(.slice 83 11)⟩),
  (44,⟨1,24,true,some [.nil],(.struct [(0,1,false)])⟩),
  (45,⟨1,24,false,some [.nil],(.slice 94 9)⟩),
  (47,⟨6,80,true,some [.int .u64 0,.int .u64 0,.int .i64 0,.int .i64 0,.nil,.nil],(.struct [(0,1,false),(1,1,false),(2,1,false),(3,1,false),(4,1,true),(5,1,false)])⟩),
  (49,⟨10,112,true,some [.int .i64 0,.int .u64 0,.int .i64 0,.int .i64 0,.int .u64 0,.int .u64 0,.int .i64 0,.int .i64 0,.nil,.nil],(.struct [(0,1,false),(1,1,false),(2,1,false),(3,1,false),(4,6,true)])⟩),
  (66,⟨1,24,false,some [.nil],(.slice 49 22)⟩),
  (75,⟨3,40,true,some [.nil,.int .i64 0,.int .i64 0],(.struct [(0,1,false),(1,1,false),(2,1,false)])⟩),
  (83,⟨5,40,true,some [.int .u64 0,.int .u64 0,.int .u64 0,.int .u64 0,.int .i64 0],(.struct [(0,1,false),(1,1,false),(2,1,false),(3,1,false),(4,1,false)])⟩),
  (94,⟨2,16,true,some [.int .i64 0,.int .u64 0],(.struct [(0,1,false),(1,1,false)])⟩),
  (113,⟨5,40,true,some [.int .i64 0,.int .i64 0,.int .u64 0,.int .u64 0,.int .i64 0],(.struct [(0,1,false),(1,1,false),(2,1,false),(3,1,false),(4,1,false)])⟩),
  (115,⟨1,8,false,some [.int .u64 0],(.int .u64)⟩)]
 F:=[(3,412),(4,144),(5,409),(6,172),(7,368),(8,4),(9,157),(10,284),(11,304),(12,315),(13,167),(14,367),(15,385),(16,194),(17,410),(18,411),(19,216),(20,218),(21,217),(22,209),(24,320),(25,6),(26,206),(27,331),(28,376),(29,334),(30,113),(31,212),(32,213),(33,3),(34,156),(35,317),(36,303),(37,314),(38,84),(39,394),(40,392),(41,236),(42,238),(43,239),(44,251),(45,250),(46,248),(47,229),(48,7),(49,244),(50,132),(51,190),(52,301),(53,309),(54,298),(55,247),(56,249),(57,5),(58,204),(59,228),(60,189),(61,300),(62,308),(63,297),(64,397),(65,396),(66,263),(67,268),(68,260),(69,265),(70,266),(71,267),(72,319),(73,321),(74,332),(75,330),(76,241),(77,242),(78,243),(79,259),(80,210),(81,316),(82,318),(83,311),(84,271),(85,364),(86,290),(87,240),(88,381),(89,393),(90,272),(91,275),(92,273),(93,274),(96,211),(97,333),(98,374),(99,323),(100,324),(101,325),(102,326),(103,388),(104,389),(105,390),(106,391),(107,328),(108,235),(109,237),(110,276),(111,277),(113,335),(114,336),(115,264)]
 eqT:=[(26,[.i .u64,.i .i64,.i .i64,.i .i64,.i .i64]),(83,[.i .u64,.i .u64,.i .u64,.i .u64,.i .i64]),(94,[.i .i64,.i .u64])]
 adds:=[23]
def F:Nat→Option RF:=lk (tI10++tI11++tI13++tI15++tLBook++tLShard++tLStore++tLaws++WaV++WaH++WbE++Wbf++WaQ++WaA++Wao++Wan++Waa++Waw++Wam++tS01d++tS10++tS11++tS13++tS15++tWFnHand)
def tab:List (Nat×FuncId×RF):=[(412,3,r412),(144,4,r144),(409,5,r409),(172,6,r172),(368,7,r368),(4,8,r4),(157,9,r157),(284,10,r284),(304,11,r304),(315,12,r315),(167,13,r167),(367,14,r367),(385,15,r385),(194,16,r194),(410,17,r410),(411,18,r411),(216,19,r216),(218,20,r218),(217,21,r217),(209,22,r209),(320,24,r320),(6,25,r6),(206,26,r206),(331,27,r331),(334,29,r334),(113,30,r113),(212,31,r212),(213,32,r213),(3,33,r3),(156,34,r156),(317,35,r317),(303,36,r303),(314,37,r314),(84,38,r84),(394,39,r394),(392,40,r392),(236,41,r236),(238,42,r238),(239,43,r239),(251,44,r251),(250,45,r250),(248,46,r248),(229,47,r229),(7,48,r7),(244,49,r244),(132,50,r132),(190,51,r190),(301,52,r301),(309,53,r309),(298,54,r298),(247,55,r247),(249,56,r249),(5,57,r5),(204,58,r204),(228,59,r228),(189,60,r189),(300,61,r300),(308,62,r308),(297,63,r297),(397,64,r397),(396,65,r396),(263,66,r263),(268,67,r268),(260,68,r260),(265,69,r265),(266,70,r266),(267,71,r267),(319,72,r319),(321,73,r321),(241,76,r241),(242,77,r242),(243,78,r243),(259,79,r259),(210,80,r210),(316,81,r316),(318,82,r318),(311,83,r311),(271,84,r271),(364,85,r364),(290,86,r290),(240,87,r240),(381,88,r381),(393,89,r393),(272,90,r272),(275,91,r275),(273,92,r273),(274,93,r274),(211,96,r211),(333,97,r333),(374,98,r374),(323,99,r323),(324,100,r324),(325,101,r325),(326,102,r326),(388,103,r388),(389,104,r389),(390,105,r390),(391,106,r391),(328,107,r328),(235,108,r235),(237,109,r237),(276,110,r276),(277,111,r277),(335,113,r335),(336,114,r336),(264,115,r264)]
def tags:List (Nat×TypeId×Nat):=[(9,94,2),(11,83,5),(13,24,1),(15,3,1),(16,47,6),(18,29,3),(19,5,1),(22,49,10)]
theorem inI10:AllT (fun x=>F x.1=some x.2) tI10:=⟨rfl,rfl,rfl,trivial⟩
theorem inI11:AllT (fun x=>F x.1=some x.2) tI11:=⟨rfl,trivial⟩
theorem inI13:AllT (fun x=>F x.1=some x.2) tI13:=⟨rfl,rfl,rfl,rfl,rfl,rfl,rfl,rfl,rfl,rfl,rfl,rfl,rfl,rfl,rfl,rfl,trivial⟩
theorem inI15:AllT (fun x=>F x.1=some x.2) tI15:=⟨rfl,rfl,rfl,rfl,rfl,rfl,rfl,rfl,rfl,rfl,rfl,rfl,rfl,rfl,rfl,trivial⟩
theorem inLBook:AllT (fun x=>F x.1=some x.2) tLBook:=⟨rfl,trivial⟩
theorem inLShard:AllT (fun x=>F x.1=some x.2) tLShard:=⟨rfl,trivial⟩
theorem inLStore:AllT (fun x=>F x.1=some x.2) tLStore:=⟨rfl,trivial⟩
theorem inLaws:AllT (fun x=>F x.1=some x.2) tLaws:=⟨rfl,trivial⟩
theorem inLibcmpCompareint:AllT (fun x=>F x.1=some x.2) WaV:=⟨rfl,trivial⟩
theorem inLibcmpCompareuint64:AllT (fun x=>F x.1=some x.2) WaH:=⟨rfl,trivial⟩
theorem inLibcmpOrint:AllT (fun x=>F x.1=some x.2) WbE:=⟨rfl,trivial⟩
theorem inLibcmpisNaNint:AllT (fun x=>F x.1=some x.2) Wbf:=⟨rfl,trivial⟩
theorem inLibcmpisNaNuint64:AllT (fun x=>F x.1=some x.2) WaQ:=⟨rfl,trivial⟩
theorem inLibslicesContainsFuncimplShardimplShard:AllT (fun x=>F x.1=some x.2) WaA:=⟨rfl,trivial⟩
theorem inLibslicesContainsFuncimplStoreimplStore:AllT (fun x=>F x.1=some x.2) Wao:=⟨rfl,trivial⟩
theorem inLibslicesContainsimplFinimplFin:AllT (fun x=>F x.1=some x.2) Wan:=⟨rfl,trivial⟩
theorem inLibslicesIndexFuncimplShardimplShard:AllT (fun x=>F x.1=some x.2) Waa:=⟨rfl,trivial⟩
theorem inLibslicesIndexFuncimplStoreimplStore:AllT (fun x=>F x.1=some x.2) Waw:=⟨rfl,trivial⟩
theorem inLibslicesIndeximplFinimplFin:AllT (fun x=>F x.1=some x.2) Wam:=⟨rfl,trivial⟩
theorem inS01d:AllT (fun x=>F x.1=some x.2) tS01d:=⟨rfl,rfl,rfl,rfl,rfl,rfl,rfl,rfl,trivial⟩
theorem inS10:AllT (fun x=>F x.1=some x.2) tS10:=⟨rfl,rfl,rfl,rfl,rfl,rfl,rfl,rfl,rfl,rfl,rfl,rfl,rfl,rfl,rfl,trivial⟩
theorem inS11:AllT (fun x=>F x.1=some x.2) tS11:=⟨rfl,trivial⟩
theorem inS13:AllT (fun x=>F x.1=some x.2) tS13:=⟨rfl,rfl,rfl,rfl,rfl,rfl,rfl,rfl,rfl,rfl,rfl,rfl,rfl,rfl,rfl,rfl,rfl,rfl,rfl,rfl,rfl,rfl,rfl,trivial⟩
theorem inS15:AllT (fun x=>F x.1=some x.2) tS15:=⟨rfl,rfl,rfl,rfl,rfl,rfl,rfl,rfl,trivial⟩
theorem inWFnHand:AllT (fun x=>F x.1=some x.2) tWFnHand:=⟨rfl,trivial⟩
open Go.Shelf
def ptab:List (Nat×FuncId×PrimF):=[(376,28,(delF 22)),(332,74,(insF 16 80)),(330,75,(delF 16))]
theorem i49:(Tryz.prog.info? 49).isSome=true:=by kernel_rfl
noncomputable def inf49:TypeInfo:=(Tryz.prog.info? 49).get i49
theorem z49:inf49.zero.isSome=true:=by kernel_rfl
noncomputable def zv49:Value:=inf49.zero.get z49
theorem p376:Z.DelT Tryz.prog (renD 28 3 4 49 66) 10 zv49 where
 mixed:=by kernel_rfl
 f45 := ⟨(Tryz.prog.funcs[28]?.map (·.name)).getD "", by kernel_rfl, by kernel_rfl⟩
 t3:=by kernel_rfl
 t4:=by kernel_rfl
 t22:=by kernel_rfl
 i23:=⟨inf49,(Option.some_get i49).symm,by kernel_rfl,by kernel_rfl,by decide,(Option.some_get z49).symm,List.all_eq_true.1 (show (zv49.cells.toList.all (·.oneCell'))=true from by kernel_rfl)⟩
theorem i47:(Tryz.prog.info? 47).isSome=true:=by kernel_rfl
noncomputable def inf47:TypeInfo:=(Tryz.prog.info? 47).get i47
theorem z47:inf47.zero.isSome=true:=by kernel_rfl
noncomputable def zv47:Value:=inf47.zero.get z47
theorem p332:Z.InsT Tryz.prog (renI 74 94 95 3 4 47 27) 6 80 zv47 where
 mixed:=by kernel_rfl
 f22 := ⟨(Tryz.prog.funcs[74]?.map (·.name)).getD "", by kernel_rfl, by kernel_rfl⟩
 f29:=⟨Tryz.f94,Tryz.func94,by kernel_rfl,by kernel_rfl,by kernel_rfl,by kernel_rfl⟩
 t3:=by kernel_rfl
 t4:=by kernel_rfl
 t24:=by kernel_rfl
 i9:=⟨inf47,(Option.some_get i47).symm,by kernel_rfl,by kernel_rfl,(Option.some_get z47).symm,by kernel_rfl,by decide⟩
theorem p330:Z.DelT Tryz.prog (renD 75 3 4 47 27) 6 zv47 where
 mixed:=by kernel_rfl
 f45 := ⟨(Tryz.prog.funcs[75]?.map (·.name)).getD "", by kernel_rfl, by kernel_rfl⟩
 t3:=by kernel_rfl
 t4:=by kernel_rfl
 t22:=by kernel_rfl
 i23:=⟨inf47,(Option.some_get i47).symm,by kernel_rfl,by kernel_rfl,by decide,(Option.some_get z47).symm,List.all_eq_true.1 (show (zv47.cells.toList.all (·.oneCell'))=true from by kernel_rfl)⟩
theorem ok412:FnOk Tryz.prog c F (412,3,r412):=⟨Tryz.f3,[],[[3,4,5,6,7,8,9,10],[11,12,13,3,4,5,0,1,2,6,7,8,9,10,14,15,16],[0,1,2,3,4,5,6,7,8,11,12,13,14,9,15,10,16],[],[],[3,4,5,6,7,8,9,10,12,13,16],[3,4,5,0,1,6,2,7,8,9],[0,1,2,3,4,5,6,7,8,9],[],[]],Tryz.func3,by kernel_rfl,by kernel_rfl,by kernel_rfl⟩
theorem ok144:FnOk Tryz.prog c F (144,4,r144):=⟨Tryz.f4,[],[],Tryz.func4,by kernel_rfl,by kernel_rfl,by kernel_rfl⟩
theorem ok409:FnOk Tryz.prog c F (409,5,r409):=⟨Tryz.f5,[],[[3,4,0,1,2,5,6,7,8,9],[0,3,4,5,6,1,7,2,8,9],[2,3],[0,1,2,5]],Tryz.func5,by kernel_rfl,by kernel_rfl,by kernel_rfl⟩
theorem ok172:FnOk Tryz.prog c F (172,6,r172):=⟨Tryz.f6,[10],[[4,19,20,21],[4,7,8,30,31,32]],Tryz.func6,by kernel_rfl,by kernel_rfl,by kernel_rfl⟩
theorem ok368:FnOk Tryz.prog c F (368,7,r368):=⟨Tryz.f7,[5,6],[[0,1,2,3,4,5],[0,3,1,4,2,5],[8,9],[],[4,5,6,8,9,10,11,61,62,63],[8,0,1,2,3,4,5,6,7,9,10],[0,1,2,3,4,5,6,8,9,7,10],[],[],[0,1,2,3,4,5],[0,3,1,4,2,5],[8,9],[]],Tryz.func7,by kernel_rfl,by kernel_rfl,by kernel_rfl⟩
theorem ok4:FnOk Tryz.prog c F (4,8,r4):=⟨Tryz.f8,[],[],Tryz.func8,by kernel_rfl,by kernel_rfl,by kernel_rfl⟩
theorem ok157:FnOk Tryz.prog c F (157,9,r157):=⟨Tryz.f9,[],[],Tryz.func9,by kernel_rfl,by kernel_rfl,by kernel_rfl⟩
theorem ok284:FnOk Tryz.prog c F (284,10,r284):=⟨Tryz.f10,[],[[1,5,13,14,15]],Tryz.func10,by kernel_rfl,by kernel_rfl,by kernel_rfl⟩
theorem ok304:FnOk Tryz.prog c F (304,11,r304):=⟨Tryz.f11,[],[],Tryz.func11,by kernel_rfl,by kernel_rfl,by kernel_rfl⟩
theorem ok315:FnOk Tryz.prog c F (315,12,r315):=⟨Tryz.f12,[],[],Tryz.func12,by kernel_rfl,by kernel_rfl,by kernel_rfl⟩
theorem ok167:FnOk Tryz.prog c F (167,13,r167):=⟨Tryz.f13,[],[[0,1,2,5,3,4,6,7,8,9,10,11,12,13],[0,1,2,3,4,5,6,7,8,9,10,11,12,13],[],[]],Tryz.func13,by kernel_rfl,by kernel_rfl,by kernel_rfl⟩
theorem ok367:FnOk Tryz.prog c F (367,14,r367):=⟨Tryz.f14,[],[[0,1,3,2,4,5,6,7],[0,1,2,3,4,5,6,7],[],[],[4,5,0,2,1,3,6,7],[0,1,2,3,4,5,6,7],[],[],[3,4,8,9,10,11,12,13,14],[3,4,8,9,10,11,12,13,14,17,18,19,20],[0,1,2,3,4,5],[0,3,1,4,2,5],[8,9],[]],Tryz.func14,by kernel_rfl,by kernel_rfl,by kernel_rfl⟩
theorem ok385:FnOk Tryz.prog c F (385,15,r385):=⟨Tryz.f15,[],[[2,3,5],[2,7,0,1,3,4,5,6,8,9,10,11],[0,1,2,3,4,5,6,7,8,9,10,11],[],[]],Tryz.func15,by kernel_rfl,by kernel_rfl,by kernel_rfl⟩
theorem ok194:FnOk Tryz.prog c F (194,16,r194):=⟨Tryz.f16,[31],[[0,3,4]],Tryz.func16,by kernel_rfl,by kernel_rfl,by kernel_rfl⟩
theorem ok410:FnOk Tryz.prog c F (410,17,r410):=⟨Tryz.f17,[],[[2,0,1,3,4,5,6],[0,1,2,3,4,5,6],[],[1,3],[2,0,1,3,4,5,6,7,8,9,10,11],[0,1,2,3,4,5,6,7,8,9,10,11],[],[1,6],[0,1,2,3,4,5],[0,3,1,4,2,5],[4,5],[]],Tryz.func17,by kernel_rfl,by kernel_rfl,by kernel_rfl⟩
theorem ok411:FnOk Tryz.prog c F (411,18,r411):=⟨Tryz.f18,[],[[0,5,6]],Tryz.func18,by kernel_rfl,by kernel_rfl,by kernel_rfl⟩
theorem ok216:FnOk Tryz.prog c F (216,19,r216):=⟨Tryz.f19,[],[],Tryz.func19,by kernel_rfl,by kernel_rfl,by kernel_rfl⟩
theorem ok218:FnOk Tryz.prog c F (218,20,r218):=⟨Tryz.f20,[],[],Tryz.func20,by kernel_rfl,by kernel_rfl,by kernel_rfl⟩
theorem ok217:FnOk Tryz.prog c F (217,21,r217):=⟨Tryz.f21,[],[],Tryz.func21,by kernel_rfl,by kernel_rfl,by kernel_rfl⟩
theorem ok209:FnOk Tryz.prog c F (209,22,r209):=⟨Tryz.f22,[],[[4,5,11,12,13]],Tryz.func22,by kernel_rfl,by kernel_rfl,by kernel_rfl⟩
theorem ok320:FnOk Tryz.prog c F (320,24,r320):=⟨Tryz.f24,[],[[2,3,12,13,14],[0,1,2,3,4,5,6,7],[0,1,2,3,4,5,6,7],[],[]],Tryz.func24,by kernel_rfl,by kernel_rfl,by kernel_rfl⟩
theorem ok6:FnOk Tryz.prog c F (6,25,r6):=⟨Tryz.f25,[],[],Tryz.func25,by kernel_rfl,by kernel_rfl,by kernel_rfl⟩
theorem ok206:FnOk Tryz.prog c F (206,26,r206):=⟨Tryz.f26,[],[[1,26,27,28],[0,1,2,3,4,5,6,7,8,9,10,11,12,13,16,17,14,15,18,19,20,21,22,23,24,25],[0,1,2,3,4,5,6,7,8,9,10,11,12,13,14,15,16,17,18,19,20,21,22,23,24,25],[],[]],Tryz.func26,by kernel_rfl,by kernel_rfl,by kernel_rfl⟩
theorem ok331:FnOk Tryz.prog c F (331,27,r331):=⟨Tryz.f27,[],[[9,0,1,2,3,4,5,6,7,8,10],[0,1,2,3,4,5,6,7,8,9,10],[],[]],Tryz.func27,by kernel_rfl,by kernel_rfl,by kernel_rfl⟩
theorem ok334:FnOk Tryz.prog c F (334,29,r334):=⟨Tryz.f29,[],[],Tryz.func29,by kernel_rfl,by kernel_rfl,by kernel_rfl⟩
theorem ok113:FnOk Tryz.prog c F (113,30,r113):=⟨Tryz.f30,[],[[0,1,2,3,4,5,6,7,8,9,10,11,12,13,14,15,16,17,18,19,20,21,22,23,24,25,26,27,28],[0,1,2,3,4,5,6,7,8,9,10,11,12,13,14,15,16,17,18,19,20,21,22,23,24,25,26,27,28],[],[]],Tryz.func30,by kernel_rfl,by kernel_rfl,by kernel_rfl⟩
theorem ok212:FnOk Tryz.prog c F (212,31,r212):=⟨Tryz.f31,[3],[],Tryz.func31,by kernel_rfl,by kernel_rfl,by kernel_rfl⟩
theorem ok213:FnOk Tryz.prog c F (213,32,r213):=⟨Tryz.f32,[4,5],[],Tryz.func32,by kernel_rfl,by kernel_rfl,by kernel_rfl⟩
theorem ok3:FnOk Tryz.prog c F (3,33,r3):=⟨Tryz.f33,[],[],Tryz.func33,by kernel_rfl,by kernel_rfl,by kernel_rfl⟩
theorem ok156:FnOk Tryz.prog c F (156,34,r156):=⟨Tryz.f34,[],[[1,3],[0,1,2,3,4,5,6,7,8,9,10,11,12,13,16,17,14,15,18,19,20,21,22,23,24,25],[0,1,2,3,4,5,6,7,8,9,10,11,12,13,14,15,16,17,18,19,20,21,22,23,24,25],[],[]],Tryz.func34,by kernel_rfl,by kernel_rfl,by kernel_rfl⟩
theorem ok317:FnOk Tryz.prog c F (317,35,r317):=⟨Tryz.f35,[],[[1,2,3,4],[4,0,1,2,3,5,6,7,8,9,10,11],[0,1,2,3,4,5,6,7,8,9,10,11],[],[]],Tryz.func35,by kernel_rfl,by kernel_rfl,by kernel_rfl⟩
theorem ok303:FnOk Tryz.prog c F (303,36,r303):=⟨Tryz.f36,[],[],Tryz.func36,by kernel_rfl,by kernel_rfl,by kernel_rfl⟩
theorem ok314:FnOk Tryz.prog c F (314,37,r314):=⟨Tryz.f37,[],[],Tryz.func37,by kernel_rfl,by kernel_rfl,by kernel_rfl⟩
theorem ok84:FnOk Tryz.prog c F (84,38,r84):=⟨Tryz.f38,[],[],Tryz.func38,by kernel_rfl,by kernel_rfl,by kernel_rfl⟩
theorem ok394:FnOk Tryz.prog c F (394,39,r394):=⟨Tryz.f39,[],[[2,3,5],[2,7,0,1,3,4,5,6,8,9,10],[0,1,2,3,4,5,6,7,8,9,10],[],[]],Tryz.func39,by kernel_rfl,by kernel_rfl,by kernel_rfl⟩
theorem ok392:FnOk Tryz.prog c F (392,40,r392):=⟨Tryz.f40,[],[[0,6,7,8]],Tryz.func40,by kernel_rfl,by kernel_rfl,by kernel_rfl⟩
theorem ok236:FnOk Tryz.prog c F (236,41,r236):=⟨Tryz.f41,[],[],Tryz.func41,by kernel_rfl,by kernel_rfl,by kernel_rfl⟩
theorem ok238:FnOk Tryz.prog c F (238,42,r238):=⟨Tryz.f42,[],[],Tryz.func42,by kernel_rfl,by kernel_rfl,by kernel_rfl⟩
theorem ok239:FnOk Tryz.prog c F (239,43,r239):=⟨Tryz.f43,[],[],Tryz.func43,by kernel_rfl,by kernel_rfl,by kernel_rfl⟩
theorem ok251:FnOk Tryz.prog c F (251,44,r251):=⟨Tryz.f44,[],[],Tryz.func44,by kernel_rfl,by kernel_rfl,by kernel_rfl⟩
theorem ok250:FnOk Tryz.prog c F (250,45,r250):=⟨Tryz.f45,[],[],Tryz.func45,by kernel_rfl,by kernel_rfl,by kernel_rfl⟩
theorem ok248:FnOk Tryz.prog c F (248,46,r248):=⟨Tryz.f46,[],[[0,1,7,8]],Tryz.func46,by kernel_rfl,by kernel_rfl,by kernel_rfl⟩
theorem ok229:FnOk Tryz.prog c F (229,47,r229):=⟨Tryz.f47,[],[],Tryz.func47,by kernel_rfl,by kernel_rfl,by kernel_rfl⟩
theorem ok7:FnOk Tryz.prog c F (7,48,r7):=⟨Tryz.f48,[],[],Tryz.func48,by kernel_rfl,by kernel_rfl,by kernel_rfl⟩
theorem ok244:FnOk Tryz.prog c F (244,49,r244):=⟨Tryz.f49,[],[[1,46,47,48],[1,76,77,78],[0,1,2,3,4,5,6,7,8,9,10,11,12,13,14,15,16,17,18,19,20,23,24,21,22,25,26,27,28,29,30,31],[0,1,2,3,4,5,6,7,8,9,10,11,12,13,14,15,16,17,18,19,20,21,22,23,24,25,26,27,28,29,30,31],[],[]],Tryz.func49,by kernel_rfl,by kernel_rfl,by kernel_rfl⟩
theorem ok132:FnOk Tryz.prog c F (132,50,r132):=⟨Tryz.f50,[],[],Tryz.func50,by kernel_rfl,by kernel_rfl,by kernel_rfl⟩
theorem ok190:FnOk Tryz.prog c F (190,51,r190):=⟨Tryz.f51,[],[],Tryz.func51,by kernel_rfl,by kernel_rfl,by kernel_rfl⟩
theorem ok301:FnOk Tryz.prog c F (301,52,r301):=⟨Tryz.f52,[],[],Tryz.func52,by kernel_rfl,by kernel_rfl,by kernel_rfl⟩
theorem ok309:FnOk Tryz.prog c F (309,53,r309):=⟨Tryz.f53,[],[[2,4,6,8,9,42,43,44]],Tryz.func53,by kernel_rfl,by kernel_rfl,by kernel_rfl⟩
theorem ok298:FnOk Tryz.prog c F (298,54,r298):=⟨Tryz.f54,[],[],Tryz.func54,by kernel_rfl,by kernel_rfl,by kernel_rfl⟩
theorem ok247:FnOk Tryz.prog c F (247,55,r247):=⟨Tryz.f55,[],[],Tryz.func55,by kernel_rfl,by kernel_rfl,by kernel_rfl⟩
theorem ok249:FnOk Tryz.prog c F (249,56,r249):=⟨Tryz.f56,[],[],Tryz.func56,by kernel_rfl,by kernel_rfl,by kernel_rfl⟩
theorem ok5:FnOk Tryz.prog c F (5,57,r5):=⟨Tryz.f57,[],[],Tryz.func57,by kernel_rfl,by kernel_rfl,by kernel_rfl⟩
theorem ok204:FnOk Tryz.prog c F (204,58,r204):=⟨Tryz.f58,[],[[1,3],[0,1,2,3,4,5,6,7,8,9,10,11,12,13,14,15,16,17,18,19,20,23,24,21,22,25,26,27,28,29,30,31],[0,1,2,3,4,5,6,7,8,9,10,11,12,13,14,15,16,17,18,19,20,21,22,23,24,25,26,27,28,29,30,31],[],[],[1,5]],Tryz.func58,by kernel_rfl,by kernel_rfl,by kernel_rfl⟩
theorem ok228:FnOk Tryz.prog c F (228,59,r228):=⟨Tryz.f59,[],[[1,2,3,4]],Tryz.func59,by kernel_rfl,by kernel_rfl,by kernel_rfl⟩
theorem ok189:FnOk Tryz.prog c F (189,60,r189):=⟨Tryz.f60,[],[],Tryz.func60,by kernel_rfl,by kernel_rfl,by kernel_rfl⟩
theorem ok300:FnOk Tryz.prog c F (300,61,r300):=⟨Tryz.f61,[],[],Tryz.func61,by kernel_rfl,by kernel_rfl,by kernel_rfl⟩
theorem ok308:FnOk Tryz.prog c F (308,62,r308):=⟨Tryz.f62,[],[[2,3,4,6,8],[2,0,1,3,4,5,6,7,8,9,14,10,11,12,13,15,16,17,18,19],[0,1,2,3,4,5,6,7,8,9,10,11,12,13,14,15,16,17,18,19],[],[],[2,3,6,9,10,11,12],[0,1,2,5,3,4,6,7,8,9,10,11,12],[0,1,2,3,4,5,6,7,8,9,10,11,12],[],[],[4,0,1,2,3,5,6,7,8,9,10,11],[0,1,2,3,4,5,6,7,8,9,10,11],[],[]],Tryz.func62,by kernel_rfl,by kernel_rfl,by kernel_rfl⟩
theorem ok297:FnOk Tryz.prog c F (297,63,r297):=⟨Tryz.f63,[],[[3,6,8,9,10],[4,0,1,2,3,5,6,7,8,9,10,11],[0,1,2,3,4,5,6,7,8,9,10,11],[],[]],Tryz.func63,by kernel_rfl,by kernel_rfl,by kernel_rfl⟩
theorem ok397:FnOk Tryz.prog c F (397,64,r397):=⟨Tryz.f64,[],[[2,3,5],[2,7,0,1,3,4,5,6,8,9,10],[0,1,2,3,4,5,6,7,8,9,10],[],[]],Tryz.func64,by kernel_rfl,by kernel_rfl,by kernel_rfl⟩
theorem ok396:FnOk Tryz.prog c F (396,65,r396):=⟨Tryz.f65,[],[[2,0,1,3,4,5,6,7,8,9,10],[0,1,2,3,4,5,6,7,8,9,10],[],[1,6],[1,3,0,2,4,5,6,7,8],[0,1,2,3,4,5,6,8,7],[],[0,2],[1,0,2,3,4,5,6,7,8,9],[0,1,2,3,4,5,6,9,7,8],[],[0,3]],Tryz.func65,by kernel_rfl,by kernel_rfl,by kernel_rfl⟩
theorem ok263:FnOk Tryz.prog c F (263,66,r263):=⟨Tryz.f66,[],[[0,1,5,6,2,3,4,7,8,9,10,11,12],[0,1,2,3,4,5,6,7,8,9,10,11,12],[],[],[0,1,4,5,2,3,6,7,8,9],[0,1,2,3,4,5,6,7,8,9],[],[],[0,1,2,5,6,3,4,7,8,9,10,11,12,13,14],[0,1,2,3,4,5,6,7,8,9,10,11,12,13,14],[],[]],Tryz.func66,by kernel_rfl,by kernel_rfl,by kernel_rfl⟩
theorem ok268:FnOk Tryz.prog c F (268,67,r268):=⟨Tryz.f67,[],[[0,1,7,8]],Tryz.func67,by kernel_rfl,by kernel_rfl,by kernel_rfl⟩
theorem ok260:FnOk Tryz.prog c F (260,68,r260):=⟨Tryz.f68,[],[],Tryz.func68,by kernel_rfl,by kernel_rfl,by kernel_rfl⟩
theorem ok265:FnOk Tryz.prog c F (265,69,r265):=⟨Tryz.f69,[],[[1,10,11,12],[0,1,2,3,4,5,6,7,8,9,10,11,12,13,14,15,16,17,18,19,20,21,22,23,24,25,26,27,30,31,28,29,32,33,34,35,36,37,38,39],[0,1,2,3,4,5,6,7,8,9,10,11,12,13,14,15,16,17,18,19,20,21,22,23,24,25,26,27,28,29,30,31,32,33,34,35,36,37,38,39],[],[]],Tryz.func69,by kernel_rfl,by kernel_rfl,by kernel_rfl⟩
theorem ok266:FnOk Tryz.prog c F (266,70,r266):=⟨Tryz.f70,[],[],Tryz.func70,by kernel_rfl,by kernel_rfl,by kernel_rfl⟩
theorem ok267:FnOk Tryz.prog c F (267,71,r267):=⟨Tryz.f71,[],[[0,1,2,3,5,6,7,8,4,9,10,11,12],[0,1,2,3,4,5,6,7,8,9,10,11,12],[],[]],Tryz.func71,by kernel_rfl,by kernel_rfl,by kernel_rfl⟩
theorem ok319:FnOk Tryz.prog c F (319,72,r319):=⟨Tryz.f72,[],[],Tryz.func72,by kernel_rfl,by kernel_rfl,by kernel_rfl⟩
theorem ok321:FnOk Tryz.prog c F (321,73,r321):=⟨Tryz.f73,[],[[1,2,4,10,11]],Tryz.func73,by kernel_rfl,by kernel_rfl,by kernel_rfl⟩
theorem ok241:FnOk Tryz.prog c F (241,76,r241):=⟨Tryz.f76,[],[[1,3],[0,1,2,5,6,3,4,7,8,9,10,11,12,13,14,15,16,17,18,19,20,21,22,23,24,25,26,27,28,29,30,31,32,33],[0,1,2,3,4,5,6,7,8,9,10,11,12,13,14,15,16,17,18,19,20,21,22,23,24,25,26,27,28,29,30,31,32,33],[],[]],Tryz.func76,by kernel_rfl,by kernel_rfl,by kernel_rfl⟩
theorem ok242:FnOk Tryz.prog c F (242,77,r242):=⟨Tryz.f77,[],[],Tryz.func77,by kernel_rfl,by kernel_rfl,by kernel_rfl⟩
theorem ok243:FnOk Tryz.prog c F (243,78,r243):=⟨Tryz.f78,[],[[0,3,5],[0,1,2,3,4,5],[0,1,2,3,4,5],[],[]],Tryz.func78,by kernel_rfl,by kernel_rfl,by kernel_rfl⟩
theorem ok259:FnOk Tryz.prog c F (259,79,r259):=⟨Tryz.f79,[],[[1,2,3,4],[4,0,1,2,3,5,6,7,8,9,10],[0,1,2,3,4,5,6,7,8,9,10],[],[]],Tryz.func79,by kernel_rfl,by kernel_rfl,by kernel_rfl⟩
theorem ok210:FnOk Tryz.prog c F (210,80,r210):=⟨Tryz.f80,[],[[1,2,3,7]],Tryz.func80,by kernel_rfl,by kernel_rfl,by kernel_rfl⟩
theorem ok316:FnOk Tryz.prog c F (316,81,r316):=⟨Tryz.f81,[],[],Tryz.func81,by kernel_rfl,by kernel_rfl,by kernel_rfl⟩
theorem ok318:FnOk Tryz.prog c F (318,82,r318):=⟨Tryz.f82,[],[[1,4,5,6]],Tryz.func82,by kernel_rfl,by kernel_rfl,by kernel_rfl⟩
theorem ok311:FnOk Tryz.prog c F (311,83,r311):=⟨Tryz.f83,[],[[1,2,3,6,8,9,10],[5,6,7,0,1,2,3,4,8,9,10,11,12],[0,1,2,3,4,5,6,7,8,9,10,11,12],[],[],[3,6,0,1,2,4,5,7,8,9,10,11],[0,1,2,3,4,5,6,7,8,9,10,11],[],[],[0,1,2,3,4,5,6,7],[0,1,2,3,4,5,6,7],[],[]],Tryz.func83,by kernel_rfl,by kernel_rfl,by kernel_rfl⟩
theorem ok271:FnOk Tryz.prog c F (271,84,r271):=⟨Tryz.f84,[],[],Tryz.func84,by kernel_rfl,by kernel_rfl,by kernel_rfl⟩
theorem ok364:FnOk Tryz.prog c F (364,85,r364):=⟨Tryz.f85,[],[[11,12,2,3,8,0,1,4,5,6,7,9,10,13,14],[0,1,2,3,4,5,11,12,13,6,7,8,9,10,14],[9],[],[2,3,6,8,10,11,12],[6,0,1,2,3,4,5,7,8,9,10,11,12,13],[0,1,2,3,4,5,6,7,8,9,10,11,12,13],[],[],[2,3,6,8,10,11,13],[4,0,1,2,3,5,6,7,8,9],[0,1,2,3,4,5,6,7,8,9],[],[],[2,3,6,8,11,14,15],[4,0,1,2,3,5,6,7,8,9,10,11],[0,1,2,3,4,5,6,7,8,9,10,11],[],[]],Tryz.func85,by kernel_rfl,by kernel_rfl,by kernel_rfl⟩
theorem ok290:FnOk Tryz.prog c F (290,86,r290):=⟨Tryz.f86,[],[],Tryz.func86,by kernel_rfl,by kernel_rfl,by kernel_rfl⟩
theorem ok240:FnOk Tryz.prog c F (240,87,r240):=⟨Tryz.f87,[],[],Tryz.func87,by kernel_rfl,by kernel_rfl,by kernel_rfl⟩
theorem ok381:FnOk Tryz.prog c F (381,88,r381):=⟨Tryz.f88,[],[],Tryz.func88,by kernel_rfl,by kernel_rfl,by kernel_rfl⟩
theorem ok393:FnOk Tryz.prog c F (393,89,r393):=⟨Tryz.f89,[],[[0,3,4,5,6,7],[2,0,1,3,4,5,6,7],[0,1,2,3,4,5,6,7],[],[1,3]],Tryz.func89,by kernel_rfl,by kernel_rfl,by kernel_rfl⟩
theorem ok272:FnOk Tryz.prog c F (272,90,r272):=⟨Tryz.f90,[],[[0,3,7,8],[1,2,3,0,4,5],[0,1,2,3,4,5],[],[]],Tryz.func90,by kernel_rfl,by kernel_rfl,by kernel_rfl⟩
theorem ok275:FnOk Tryz.prog c F (275,91,r275):=⟨Tryz.f91,[],[[3,6,7,8]],Tryz.func91,by kernel_rfl,by kernel_rfl,by kernel_rfl⟩
theorem ok273:FnOk Tryz.prog c F (273,92,r273):=⟨Tryz.f92,[],[],Tryz.func92,by kernel_rfl,by kernel_rfl,by kernel_rfl⟩
theorem ok274:FnOk Tryz.prog c F (274,93,r274):=⟨Tryz.f93,[],[],Tryz.func93,by kernel_rfl,by kernel_rfl,by kernel_rfl⟩
theorem ok211:FnOk Tryz.prog c F (211,96,r211):=⟨Tryz.f96,[],[[1,2,5]],Tryz.func96,by kernel_rfl,by kernel_rfl,by kernel_rfl⟩
theorem ok333:FnOk Tryz.prog c F (333,97,r333):=⟨Tryz.f97,[],[[1,2,4,8,9,10],[6,0,1,2,3,4,5,7,8,9,10,11,12,13],[0,1,2,3,4,5,6,7,8,9,10,11,12,13],[],[],[1,2,4,8,9,11],[4,0,1,2,3,5,6,7,8,9,10],[0,1,2,3,4,5,6,7,8,9,10],[],[]],Tryz.func97,by kernel_rfl,by kernel_rfl,by kernel_rfl⟩
theorem ok374:FnOk Tryz.prog c F (374,98,r374):=⟨Tryz.f98,[],[[0,3,5,6,7],[0,1,2,4,5,6,3,7,8,9],[0,1,2,3,4,5,6,7,8,9],[],[]],Tryz.func98,by kernel_rfl,by kernel_rfl,by kernel_rfl⟩
theorem ok323:FnOk Tryz.prog c F (323,99,r323):=⟨Tryz.f99,[],[[1,2,4,6,7,8],[4,0,1,2,3,5,6,7,8,9,10],[0,1,2,3,4,5,6,7,8,9,10],[],[]],Tryz.func99,by kernel_rfl,by kernel_rfl,by kernel_rfl⟩
theorem ok324:FnOk Tryz.prog c F (324,100,r324):=⟨Tryz.f100,[],[[1,2,4,8,9],[4,0,1,2,3,5,6,7,8,9,10],[0,1,2,3,4,5,6,7,8,9,10],[],[]],Tryz.func100,by kernel_rfl,by kernel_rfl,by kernel_rfl⟩
theorem ok325:FnOk Tryz.prog c F (325,101,r325):=⟨Tryz.f101,[],[],Tryz.func101,by kernel_rfl,by kernel_rfl,by kernel_rfl⟩
theorem ok326:FnOk Tryz.prog c F (326,102,r326):=⟨Tryz.f102,[],[],Tryz.func102,by kernel_rfl,by kernel_rfl,by kernel_rfl⟩
theorem ok388:FnOk Tryz.prog c F (388,103,r388):=⟨Tryz.f103,[],[],Tryz.func103,by kernel_rfl,by kernel_rfl,by kernel_rfl⟩
theorem ok389:FnOk Tryz.prog c F (389,104,r389):=⟨Tryz.f104,[],[],Tryz.func104,by kernel_rfl,by kernel_rfl,by kernel_rfl⟩
theorem ok390:FnOk Tryz.prog c F (390,105,r390):=⟨Tryz.f105,[],[],Tryz.func105,by kernel_rfl,by kernel_rfl,by kernel_rfl⟩
theorem ok391:FnOk Tryz.prog c F (391,106,r391):=⟨Tryz.f106,[],[],Tryz.func106,by kernel_rfl,by kernel_rfl,by kernel_rfl⟩
theorem ok328:FnOk Tryz.prog c F (328,107,r328):=⟨Tryz.f107,[],[[1,2,5]],Tryz.func107,by kernel_rfl,by kernel_rfl,by kernel_rfl⟩
theorem ok235:FnOk Tryz.prog c F (235,108,r235):=⟨Tryz.f108,[],[],Tryz.func108,by kernel_rfl,by kernel_rfl,by kernel_rfl⟩
theorem ok237:FnOk Tryz.prog c F (237,109,r237):=⟨Tryz.f109,[],[],Tryz.func109,by kernel_rfl,by kernel_rfl,by kernel_rfl⟩
theorem ok276:FnOk Tryz.prog c F (276,110,r276):=⟨Tryz.f110,[],[],Tryz.func110,by kernel_rfl,by kernel_rfl,by kernel_rfl⟩
theorem ok277:FnOk Tryz.prog c F (277,111,r277):=⟨Tryz.f111,[],[],Tryz.func111,by kernel_rfl,by kernel_rfl,by kernel_rfl⟩
theorem ok335:FnOk Tryz.prog c F (335,113,r335):=⟨Tryz.f113,[],[],Tryz.func113,by kernel_rfl,by kernel_rfl,by kernel_rfl⟩
theorem ok336:FnOk Tryz.prog c F (336,114,r336):=⟨Tryz.f114,[],[[3,4,5,6],[2,0,1,3,4,5,6,7,8],[0,1,2,3,4,5,6,7,8],[],[]],Tryz.func114,by kernel_rfl,by kernel_rfl,by kernel_rfl⟩
theorem ok264:FnOk Tryz.prog c F (264,115,r264):=⟨Tryz.f115,[],[[0,3,4]],Tryz.func115,by kernel_rfl,by kernel_rfl,by kernel_rfl⟩
theorem okT:(c.T.all fun x=>x.2.okB Tryz.prog (mkCfgZ Tryz.prog tab ptab tags).ET (mkCfgZ Tryz.prog tab ptab tags).SZ x.1)=true:=by kernel_rfl
theorem okF:(c.F.all fun x=>decide ((mkCfgZ Tryz.prog tab ptab tags).G x.2=some x.1))=true:=by kernel_rfl
theorem okTab:AllT (FnOk Tryz.prog c F) tab:=⟨ok412,ok144,ok409,ok172,ok368,ok4,ok157,ok284,ok304,ok315,ok167,ok367,ok385,ok194,ok410,ok411,ok216,ok218,ok217,ok209,ok320,ok6,ok206,ok331,ok334,ok113,ok212,ok213,ok3,ok156,ok317,ok303,ok314,ok84,ok394,ok392,ok236,ok238,ok239,ok251,ok250,ok248,ok229,ok7,ok244,ok132,ok190,ok301,ok309,ok298,ok247,ok249,ok5,ok204,ok228,ok189,ok300,ok308,ok297,ok397,ok396,ok263,ok268,ok260,ok265,ok266,ok267,ok319,ok321,ok241,ok242,ok243,ok259,ok210,ok316,ok318,ok311,ok271,ok364,ok290,ok240,ok381,ok393,ok272,ok275,ok273,ok274,ok211,ok333,ok374,ok323,ok324,ok325,ok326,ok388,ok389,ok390,ok391,ok328,ok235,ok237,ok276,ok277,ok335,ok336,ok264,trivial⟩
theorem okP:AllT (PFn Tryz.prog F) ptab:=⟨⟨⟨Tryz.f28,Tryz.func28,by kernel_rfl,by kernel_rfl⟩,rfl,step_del _⟩,⟨⟨Tryz.f74,Tryz.func74,by kernel_rfl,by kernel_rfl⟩,rfl,step_ins _ _⟩,⟨⟨Tryz.f75,Tryz.func75,by kernel_rfl,by kernel_rfl⟩,rfl,step_del _⟩,trivial⟩
theorem prog (O:Nat):ProgOk ((mkCfgZ Tryz.prog tab ptab tags).at O) c F (primZ ptab):=
 mkProgZ okT okF okTab okP ⟨⟨Tryz.f23,Tryz.func23,by kernel_rfl,by kernel_rfl,by kernel_rfl,by kernel_rfl⟩,trivial⟩ ⟨⟨by kernel_rfl,by kernel_rfl,by kernel_rfl⟩,⟨by kernel_rfl,by kernel_rfl,by kernel_rfl⟩,⟨by kernel_rfl,by kernel_rfl,by kernel_rfl⟩,trivial⟩ O ⟨del_ok (ρ:=renD 28 3 4 49 66) (k:=10) rfl rfl p376,ins_ok (ρ:=renI 74 94 95 3 4 47 27) (k:=6) rfl rfl p332,del_ok (ρ:=renD 75 3 4 47 27) (k:=6) rfl rfl p330,trivial⟩
theorem pr376:WbF F (primZ ptab) 376 (delF 22):=primAt (ptab:=ptab) (n:=376) (x:=(28,(delF 22))) rfl rfl
theorem pr332:WbF F (primZ ptab) 332 (insF 16 80):=primAt (ptab:=ptab) (n:=332) (x:=(74,(insF 16 80))) rfl rfl
theorem pr330:WbF F (primZ ptab) 330 (delF 16):=primAt (ptab:=ptab) (n:=330) (x:=(75,(delF 16))) rfl rfl
end Go.Proofs.YtjaideekkbpalaaGreat.A.Hand
namespace Go.Proofs.YtjaideekkbpalaaGreat.A
open Go
set_option linter.unusedSimpArgs false
set_option linter.unusedVariables false
theorem hand_eqs2 (lo f t e p:Int):eqsR false [.i .u64,.i .i64,.i .i64,.i .i64,.i .i64] (some (.agg [.int .u64 lo,.int .i64 f,.int .i64 t,.int .i64 e,.int .i64 p])) (some (.agg [.int .u64 lo,.int .i64 f,.int .i64 t,.int .i64 e,.int .i64 p]))=some (.bool true):=by
 have hc:Wbb [.i .u64,.i .i64,.i .i64,.i .i64,.i .i64] [.int .u64 lo,.int .i64 f,.int .i64 t,.int .i64 e,.int .i64 p] [.int .u64 lo,.int .i64 f,.int .i64 t,.int .i64 e,.int .i64 p]=some true:=by simp[Wbb,eqK]
 simp only[eqsR,hc,List.length_cons,List.length_nil,and_self,if_true,Option.bind_some]
 rfl
section
variable {F:Nat→Option RF} {Z:Waf} {g h:Heap}
set_option maxHeartbeats 8000000 in
set_option maxRecDepth 8000 in
theorem law_Hand (hI10:Has F tI10) (hI11:Has F tI11) (hI13:Has F tI13) (hI15:Has F tI15) (hLBook:Has F tLBook) (hLShard:Has F tLShard) (hLStore:Has F tLStore) (hLaws:Has F tLaws) (hLibcmpCompareint:Has F WaV) (hLibcmpCompareuint64:Has F WaH) (hLibcmpOrint:Has F WbE) (hLibcmpisNaNint:Has F Wbf) (hLibcmpisNaNuint64:Has F WaQ) (hLibslicesContainsFuncimplShardimplShard:Has F WaA) (hLibslicesContainsFuncimplStoreimplStore:Has F Wao) (hLibslicesContainsimplFinimplFin:Has F Wan) (hLibslicesIndexFuncimplShardimplShard:Has F Waa) (hLibslicesIndexFuncimplStoreimplStore:Has F Waw) (hLibslicesIndeximplFinimplFin:Has F Wam) (hS01d:Has F tS01d) (hS10:Has F tS10) (hS11:Has F tS11) (hS13:Has F tS13) (hS15:Has F tS15) (hWFnHand:Has F tWFnHand) (pr330:WbF F Z 330 (delF 16)) (pr332:WbF F Z 332 (insF 16 80)) (pr376:WbF F Z 376 (delF 22))
 (h:Heap) (avs:List V) (hfl:h.floor=h.next) (w:ArgsWf h 8 [shUint8S] avs): ∃h',call F Z 412 avs h=some (.c (.bool true),h'):=by
 obtain ⟨x,_,rfl,xw,w1⟩:=ArgsWf.slice w
 obtain ⟨code,v,hby⟩:=Wf.areBytes xw
 obtain rfl:=w1.nil
 have f0:h.floor≤h.next:=by omega
 have k:KI F:=⟨hI10,hI11,hI13,hLibcmpCompareint,hLibcmpCompareuint64,hLibcmpOrint,hLibcmpisNaNint,hLibcmpisNaNuint64,hLibslicesIndeximplFinimplFin,hLibslicesContainsimplFinimplFin⟩
 have ks:KS F:=⟨hS01d,hS10,hS13⟩
 have hL:=hLibslicesIndexFuncimplShardimplShard
 have q:KH F:=⟨hI15,hL,hLibslicesContainsFuncimplShardimplShard,hLibslicesIndexFuncimplStoreimplStore,hLibslicesContainsFuncimplStoreimplStore⟩
 rw[Wac F Z (hWFnHand.lk (g:=412) rfl) _ _ rfl]
 have hb:=big_run (Z:=Z) hLaws v
 by_cases hbig:(code.length:Int)>1048576
 ·rw[decide_eq_true hbig] at hb
  simp only[rn,RO.dst,lk,drop,Nat.reduceBEq,Nat.reduceAdd,Nat.reduceLeDiff,↓reduceIte,reduceCtorEq,hb]
  exact ⟨_,rfl⟩
 rw[decide_eq_false hbig] at hb
 obtain ⟨H,s,n,K,hK,cs,g0,fp,fy,ops,y,e0,o0,v0,rd,hsn,lo,hol,hok⟩:=DrawRightHand_c (Z:=Z) ks hS11 hS15 f0 v
 obtain ⟨l1,l2,l3⟩:=Store.lenI v0
 have vt:Store.RI g0 [.int .i64 2,.int .i64 n,.nil] (Store.void 2 n) []:=⟨.nil,[],rfl,rfl,SlR.nil _ _ _⟩
 have okH:H.Ok:=by
  have h1:=rd.e1
  have h2:=rd.e3
  have h3:=rd.g.good.sn
  have hx:=rd.xok.lo
  have hlo:=rd.lo
  have hfr:=rd.fr
  have hto:=rd.to
  have hph:=rd.ph
  exact ⟨by omega,by omega,by omega,by omega,by omega⟩
 have wp:=pair_lit v0 vt
 have op:=On.push g0 [cs,[.int .i64 2,.int .i64 n,.nil]]
 obtain ⟨gp,hgp⟩: ∃g,g0.push [cs,[.int .i64 2,.int .i64 n,.nil]]=g:=⟨_,rfl⟩
 rw[hgp] at wp op
 have p1:=o0.trans op
 obtain ⟨g1,e1,o1⟩:=LiveTotal_c (Z:=Z) k q (p1.le f0) wp (fun a ha=>by
  simp only[List.mem_cons,List.not_mem_nil,or_false] at ha
  rcases ha with rfl | rfl
  ·exact rd.g.ok
  ·exact rd.tgood.ok)
 have L0:=(Left.l0 (h:=H) (s:=s) (t:=Store.void 2 n) (k:=K) (hk:=hK)).live rd
 rw[L0] at e1
 have p2:=p1.trans o1
 have oi:=On.push g1 ([0,1,2,5,9,100,9223372036854775808,18446744073709551615,H.lo].map idc)
 have wi:SlR 13 (Fl idc) (g1.push ([0,1,2,5,9,100,9223372036854775808,18446744073709551615,H.lo].map idc)) (.sl 13 g1.next 0 9) [0,1,2,5,9,100,9223372036854775808,18446744073709551615,H.lo] [g1.next]:=SlR.ofFlat (xs:=[0,1,2,5,9,100,9223372036854775808,18446744073709551615,H.lo]) (by simp[maxLen]) (Wbm _ _) (by rw[Wbu];omega)
 obtain ⟨gi,hgi⟩: ∃g,g1.push ([0,1,2,5,9,100,9223372036854775808,18446744073709551615,H.lo].map idc)=g:=⟨_,rfl⟩
 rw[hgi] at wi oi
 simp only[List.map_cons,List.map_nil,idc] at hgi
 have p3:=p2.trans oi
 have oi0:=(op.trans o1).trans oi
 have v3:=Store.okI.on v0 oi0
 have vt3:=Store.okI.on vt oi0
 have lo3:=lo.on (Fl.ok _) oi0
 obtain ⟨d,hd⟩: ∃d,ops.length / 6+1=d:=⟨_,rfl⟩
 obtain ⟨J,hJ⟩: ∃J,ops.length / d+1=J:=⟨_,rfl⟩
 obtain ⟨sL,⟨gL,hsL,oL⟩,lp⟩:=WaB (F:=F) (Z:=Z) (live:=[3,4,5,6,7,8,9,10]) (b:=r412L1) J (fun i st=> ∃g':Heap,st=⟨[(6,.c y),(7,.c (.int .u64 (wHi s.money))),(8,.c (.int .u64 (wLo s.money))),(9,.c (.sl 13 g1.next 0 9)),(10,.c (.int .i64 ((i*d:Nat):Int)))],[(3,3,0),(4,4,0),(5,5,0)],[(3,[.int .u64 H.lo,.int .i64 H.from_,.int .i64 H.to,.int .i64 H.epoch,.int .i64 H.phase]),(4,cs),(5,[.int .i64 2,.int .i64 n,.nil])],g'⟩∧On gi g') (fun i st hi ⟨g',hst,o'⟩=>by
  subst hst
  have hm:i*d≤ops.length:=by
   have h1:i≤ops.length / d:=by omega
   exact Nat.le_trans (Nat.mul_le_mul_right d h1) (Nat.div_mul_le_self _ _)
  obtain ⟨g'',o'',eq⟩:=hand_turn (F:=F) (Z:=Z) k q hI15 pr330 pr332 pr376 ((p3.trans o').le f0) rd okH (Store.okI.on v3 o') (Store.okI.on vt3 o') (lo3.vw.on o') hol hok (wi.on (Fl.ok _) o') (by simp) hm
  refine ⟨_,⟨g'',rfl,o'.trans o''⟩,?_⟩
  rw[eq,show i*d+1+ops.length / 6=(i+1)*d by rw[Nat.succ_mul];omega]) (s:=⟨[(6,.c y),(7,.c (.int .u64 (wHi s.money))),(8,.c (.int .u64 (wLo s.money))),(9,.c (.sl 13 g1.next 0 9)),(10,.c (.int .i64 ((0*d:Nat):Int)))],[(3,3,0),(4,4,0),(5,5,0)],[(3,[.int .u64 H.lo,.int .i64 H.from_,.int .i64 H.to,.int .i64 H.epoch,.int .i64 H.phase]),(4,cs),(5,[.int .i64 2,.int .i64 n,.nil])],gi⟩) ⟨gi,rfl,On.refl gi⟩
 subst hsL
 have hend: ¬((J*d:Nat):Int)≤ops.length:=by
  have h1:=Nat.div_add_mod ops.length d
  have h2:=Nat.mod_lt ops.length (show d>0 by omega)
  have h3:J*d=d*(ops.length / d)+d:=by rw[←hJ,Nat.succ_mul,Nat.mul_comm]
  omega
 rw[Nat.zero_mul] at lp
 simp only[show ((0:Nat):Int)=0 from rfl] at lp
 have p4:=p3.trans oL
 have v4:=Store.okI.on v3 oL
 have vt4:=Store.okI.on vt3 oL
 have lo4:=lo3.on (Fl.ok _) oL
 have hvl:=lo4.len
 obtain ⟨F1,F2,F3,F4⟩:=rd.first
 obtain ⟨cm,g5,fm,e5,o5,um,_⟩:=HandSend_c (Z:=Z) k hI15 hL (p4.le f0) H v4 rd.g.ok rd.g.small
 rw[F1] at e5 um
 simp only at e5 um
 have okm:(hm0 H).Ok:=by
  have:=handSend_ok okH rd.g.ok
  rw[F1] at this
  exact this
 have smm:(hm0 H).Small:=by
  have:=handSend_small rd.g.small H
  rw[F1] at this
  exact this
 obtain ⟨m1,m2,m3⟩:=HandMsg.lenI um
 have p5:=p4.trans o5
 have v5:=Store.okI.on v4 o5
 obtain ⟨c6,g6,f6,e6,o6,u6,_⟩:=HandTake_c (Z:=Z) k hI15 hL pr330 pr332 (p5.le f0) v5 um rd.g.ok rd.g.small okm smm
 obtain ⟨t1,t2,t3⟩:=Store.lenI u6
 have okt:=WbX rd.g.ok okm
 have smt:=Wbw rd.g.small smm
 have p6:=p5.trans o6
 have um6:=HandMsg.okI.on um o6
 obtain ⟨c7,g7,f7,e7,o7,u7,_⟩:=HandTake_c (Z:=Z) k hI15 hL pr330 pr332 (p6.le f0) u6 um6 okt smt okm smm
 rw[F3] at e7
 obtain ⟨q1,q2,q3⟩:=Store.lenI u7
 have p7:=p6.trans o7
 have um7:=HandMsg.okI.on um6 o7
 obtain ⟨g8,e8,o8⟩:=HandHas_c (Z:=Z) k hI15 hL (p7.le f0) (Store.okI.on u6 o7) um7 okt
 rw[←F4] at e8
 have p8:=p7.trans o8
 obtain ⟨g9,e9,o9⟩:=HandHas_c (Z:=Z) k hI15 hL (p8.le f0) (Store.okI.on (Store.okI.on (Store.okI.on v5 o6) o7) o8) (HandMsg.okI.on um7 o8) rd.g.ok
 rw[F2] at e9
 have p9:=p8.trans o9
 have o59:=(((o5.trans o6).trans o7).trans o8).trans o9
 have v9:=Store.okI.on v4 o59
 have vt9:=Store.okI.on vt4 o59
 have lo9:=lo4.on (Fl.ok _) o59
 obtain ⟨ca,cb,g10,fa,fb,e10,o10,va,vb,_,_,_⟩:=PlayHand_c (Z:=Z) k hI15 hL pr330 pr332 pr376 (p9.le f0) H okH v9 vt9 lo9.vw rd.g.ok rd.g.small rd.tgood.ok rd.tgood.small (fun z hz=>(hok z hz).2)
 have p10:=p9.trans o10
 have L:=rd.left ops (by omega)
 have v10:=Store.okI.on v9 o10
 have vt10:=Store.okI.on vt9 o10
 have lo10:=lo9.on (Fl.ok _) o10
 obtain ⟨a1,a2,a3⟩:=Store.lenI va
 obtain ⟨b1,b2,b3⟩:=Store.lenI vb
 simp only[Hand.enc] at e0 e5 e10
 by_cases hph:(WaM H s (Store.void 2 n) ops).1.phase=3
 ·have hov:=L.over rd hph
  obtain ⟨_,_,gA,gB⟩:=L.good rd
  have wq:=pair_lit va vb
  have oq:=On.push g10 [ca,cb]
  obtain ⟨gq,hgq⟩: ∃g,g10.push [ca,cb]=g:=⟨_,rfl⟩
  rw[hgq] at wq oq
  have p11:=p10.trans oq
  obtain ⟨yr,g12,fr,e12,o12,wr,_⟩:=Holders_c (Z:=Z) k q.a hL (p11.le f0) wq H.lo (fun a ha=>by
   simp only[List.mem_cons,List.not_mem_nil,or_false] at ha
   rcases ha with rfl | rfl
   ·exact gA.ok
   ·exact gB.ok)
  rw[hov] at wr
  have hrl:=wr.len
  have hri:=wr.idx (i:=0) (by simp)
  have hrv:=wr.load (i:=0) (by simp)
  simp only[List.getElem_cons_zero,Wai,List.length_cons,List.length_nil,show ((0:Nat):Int)=0 from rfl,show ((0+1:Nat):Int)=1 from rfl] at hrl hri hrv
  have p12:=p11.trans o12
  have o1012:=oq.trans o12
  obtain ⟨cd,ce,g13,fd,fe,e13,o13,vd,ve,_,_,_⟩:=sPlayHand_c (Z:=Z) ks hS01d hS15 (p12.le f0) H okH (Store.okI.on v10 o1012) (Store.okI.on vt10 o1012) (lo10.on (Fl.ok _) o1012).vw rd.g.ok rd.g.small rd.tgood.ok rd.tgood.small (fun z hz=>(hok z hz).2)
  obtain ⟨d1,d2,d3⟩:=Store.lenI vd
  obtain ⟨x1,x2,x3⟩:=Store.lenI ve
  have es1:=sameStore_r (Z:=Z) hLStore hLShard hLBook (Store.okI.on va (o1012.trans o13)) vd
  have es2:=sameStore_r (Z:=Z) hLStore hLShard hLBook (Store.okI.on vb (o1012.trans o13)) ve
  simp only[decide_true] at es1 es2
  simp only[Hand.enc] at e13
  generalize WaM H s (Store.void 2 n) ops=pr at *
  have hee:=hand_eqs2 pr.1.lo pr.1.from_ pr.1.to pr.1.epoch pr.1.phase
  rw[hph] at e10 e13 hee
  simp only[rn,RO.dst,lk,drop,Nat.reduceBEq,Nat.reduceAdd,Nat.reduceLeDiff,↓reduceIte,reduceCtorEq,List.replicate_succ,List.replicate_zero,Wav,and_self,List.set_cons_zero,List.set_cons_succ,Nat.reduceLT,Nat.zero_lt_succ,Nat.zero_lt_one,hb,e0,l1,l2,l3,hgp,e1,hgi,lp]
  rw[Wab]
  conv in (Wad _ _ r412L1 _)=>unfold r412L1
  simp only[rn,RO.dst,lk,drop,Nat.reduceBEq,Nat.reduceAdd,Nat.reduceLeDiff,↓reduceIte,reduceCtorEq,List.replicate_succ,List.replicate_zero,Wav,and_self,List.set_cons_zero,List.set_cons_succ,Nat.reduceLT,Nat.zero_lt_succ,Nat.zero_lt_one,hvl,hend,l1,l2,l3,e5,m1,m2,m3,e6,t1,t2,t3,e7,q1,q2,q3,e8,e9,bne_self_eq_false,e10,a1,a2,a3,b1,b2,b3,beq_self_eq_true,Int.reduceBEq,Int.reduceBNe,hgq,e12,hrl,hri,hrv,e13,d1,d2,d3,x1,x2,x3,hee,es1,es2]
  exact ⟨_,rfl⟩
 ·obtain ⟨cd,ce,g13,fd,fe,e13,o13,vd,ve,_,_,_⟩:=sPlayHand_c (Z:=Z) ks hS01d hS15 (p10.le f0) H okH v10 vt10 lo10.vw rd.g.ok rd.g.small rd.tgood.ok rd.tgood.small (fun z hz=>(hok z hz).2)
  obtain ⟨d1,d2,d3⟩:=Store.lenI vd
  obtain ⟨x1,x2,x3⟩:=Store.lenI ve
  have es1:=sameStore_r (Z:=Z) hLStore hLShard hLBook (Store.okI.on va o13) vd
  have es2:=sameStore_r (Z:=Z) hLStore hLShard hLBook (Store.okI.on vb o13) ve
  simp only[decide_true] at es1 es2
  simp only[Hand.enc] at e13
  generalize WaM H s (Store.void 2 n) ops=pr at *
  have hee:=hand_eqs2 pr.1.lo pr.1.from_ pr.1.to pr.1.epoch pr.1.phase
  have hpb:(pr.1.phase==3)=false:=by simpa using hph
  simp only[rn,RO.dst,lk,drop,Nat.reduceBEq,Nat.reduceAdd,Nat.reduceLeDiff,↓reduceIte,reduceCtorEq,List.replicate_succ,List.replicate_zero,Wav,and_self,List.set_cons_zero,List.set_cons_succ,Nat.reduceLT,Nat.zero_lt_succ,Nat.zero_lt_one,hb,e0,l1,l2,l3,hgp,e1,hgi,lp]
  rw[Wab]
  conv in (Wad _ _ r412L1 _)=>unfold r412L1
  simp only[rn,RO.dst,lk,drop,Nat.reduceBEq,Nat.reduceAdd,Nat.reduceLeDiff,↓reduceIte,reduceCtorEq,List.replicate_succ,List.replicate_zero,Wav,and_self,List.set_cons_zero,List.set_cons_succ,Nat.reduceLT,Nat.zero_lt_succ,Nat.zero_lt_one,hvl,hend,l1,l2,l3,e5,m1,m2,m3,e6,t1,t2,t3,e7,q1,q2,q3,e8,e9,bne_self_eq_false,e10,a1,a2,a3,b1,b2,b3,beq_self_eq_true,hpb,e13,d1,d2,d3,x1,x2,x3,hee,es1,es2]
  exact ⟨_,rfl⟩
end
end Go.Proofs.YtjaideekkbpalaaGreat.A
namespace Go.Proofs.YtjaideekkbpalaaGreat.A.Hand
open Go Go.ChangeShapes Go.WideShapes Go.ChangeAt Go.RowKit
theorem own:ownKnob Tryz.prog.godebug=none:=by kernel_rfl
set_option maxRecDepth 100000 in
theorem lifted (os:Os) (started:os.Started) (H:Type) (enc:TypeId×Value→H):
 ReturnsInHanded {} Tryz.checked os 3 .any (Rows.fnHandSpec.pre6 enc Tryz.prog Tryz.f3 Rows.fnHandRow.domain false) (Rows.fnHandSpec.post enc Tryz.prog Tryz.f3 false true false false):=by
 refine returnsInHanded_of_change_sized (C:=Tryz.checked) own started (by kernel_rfl) Tryz.func3
  (ChangeSpec.witness6 (enc:=enc) (C:=Tryz.checked) false ⟨#[],#[.slice none 0 0],[]⟩ 8 (by kernel_rfl) (by kernel_rfl) (by kernel_rfl) (by kernel_rfl)) ?_
 intro W base args ds gs before hval hW _ _ _
 have hW':=hW
 obtain ⟨p,q,hA,hV,rfl,hfz,hnd⟩:=hW
 obtain ⟨rfl,rfl⟩:=trodVars_none hV
 have r0:DataW.TrodAll enc Tryz.prog W 0 (fun _=>true) true [22] args.toList ds p:=hA
 obtain ⟨_,_,d0,_,_,_,_,rfl,_,_,r1⟩:=trodAll_cons r0
 obtain ⟨_,rfl,_⟩:=trodAll_nil r1
 refine (law_calls (ts:=[22]) (ss:=[shUint8S]) prog (show (mkCfgZ Tryz.prog tab ptab tags).G 412=some 3 from by kernel_rfl) ⟨show shIs Tryz.prog (mkCfgZ Tryz.prog tab ptab tags).ET (mkCfgZ Tryz.prog tab ptab tags).SZ 8 22 shUint8S=true from by kernel_rfl,trivial⟩ (law_Hand inI10 inI11 inI13 inI15 inLBook inLShard inLStore inLaws inLibcmpCompareint inLibcmpCompareuint64 inLibcmpOrint inLibcmpisNaNint inLibcmpisNaNuint64 inLibslicesContainsFuncimplShardimplShard inLibslicesContainsFuncimplStoreimplStore inLibslicesContainsimplFinimplFin inLibslicesIndexFuncimplShardimplShard inLibslicesIndexFuncimplStoreimplStore inLibslicesIndeximplFinimplFin inS01d inS10 inS11 inS13 inS15 inWFnHand pr330 pr332 pr376) (fun j t v h1=>hval j t v (by rw[Tryz.params3];exact (List.getElem?_toArray ..).trans h1)) hA).mono fun e W' ⟨he,bel⟩=> ?_
 subst he
 exact ⟨_,rfl,_,_,_,[],_,[],hW',trodAll_mk1 (shut_bool Tryz.underlying4 _),trodAll_below (by kernel_rfl) bel _ _ _ _ (by kernel_rfl) hA hA.lt,rfl,bel.frame _,fun h=>by cases h⟩
theorem over:Rows.fnHandRow.holds Tryz.pinned (OpenSpec.ofChange Rows.fnHandSpec):=
 OpenClaim.holds_of_wide 3 Tryz.f3 rfl rfl rfl rfl rfl rfl rfl ⟨rfl,rfl,rfl,rfl,rfl⟩ rfl rfl rfl rfl rfl (by kernel_rfl) Tryz.func3 (by kernel_rfl)
  (of_decide_eq_true (by kernel_rfl)) (by unfold Func.isWrapper;first | (rw[if_pos (by decide+kernel)];kernel_rfl) | (rw[if_neg (by decide+kernel)];exact ⟨rfl,rfl⟩))
  (fun os started H enc _=>lifted os started H enc)
end Go.Proofs.YtjaideekkbpalaaGreat.A.Hand
namespace Go.Proofs.YtjaideekkbpalaaGreat
theorem fnHand_holds:Rows.FnHandSaid:=A.Hand.over
#print axioms fnHand_holds
end Go.Proofs.YtjaideekkbpalaaGreat
