/- FnHanded: the statement, from the law of the abstract run. No condition. -/
import Derived.Test.YtjaideekkbpalaaHCHanded4
import Derived.Test.YtjaideekkbpalaaB6
import Derived.Test.YtjaideekkbpalaaZ7
import Derived.Test.YtjaideekkbpalaaProg
import Derived.Test.YtjaideekkbpalaaRows
import Derived.ProofKit
import Derived.OpenShut
import Derived.ShutString
import Derived.ChangeOld
import Derived.Below
import Derived.SizedLaws
namespace Go.Proofs.Ytjaideekkbpalaa.A.Handed
open Go
set_option maxRecDepth 100000
def c:CC where
 T:=[(3,⟨1,8,false,some [.int .i64 0],(.int .i64)⟩),
  (5,⟨1,1,false,some [.int .u8 0],(.int .u8)⟩),
  (22,⟨1,24,false,some [.nil],(.slice 5 19)⟩),
  (24,⟨1,8,false,some [.int .u64 0],(.int .u64)⟩),
  (26,⟨5,40,true,some [.int .u64 0,.int .i64 0,.int .i64 0,.int .i64 0,.int .i64 0],(.struct [(0,1,false),(1,1,false),(2,1,false),(3,1,false),(4,1,false)])⟩),
  (27,⟨1,24,false,some [.nil],(.slice 38 16)⟩),
  (29,⟨3,40,true,some [.int .i64 0,.int .i64 0,.nil],(.struct [(0,1,false),(1,1,false),(2,1,false)])⟩),
  (30,⟨1,24,false,some [.nil],(.slice 3 15)⟩),
  (33,⟨1,24,false,some [.nil],(.slice 85 11)⟩),
  (35,⟨1,24,true,some [.nil],(.struct [(0,1,false)])⟩),
  (36,⟨1,24,false,some [.nil],(.slice 78 9)⟩),
  (38,⟨6,80,true,some [.int .u64 0,.int .u64 0,.int .i64 0,.int .i64 0,.nil,.nil],(.struct [(0,1,false),(1,1,false),(2,1,false),(3,1,false),(4,1,true),(5,1,false)])⟩),
  (45,⟨10,112,true,some [.int .i64 0,.int .u64 0,.int .i64 0,.int .i64 0,.int .u64 0,.int .u64 0,.int .i64 0,.int .i64 0,.nil,.nil],(.struct [(0,1,false),(1,1,false),(2,1,false),(3,1,false),(4,6,true)])⟩),
  (55,⟨1,24,false,some [.nil],(.slice 45 22)⟩),
  (66,⟨3,40,true,some [.nil,.int .i64 0,.int .i64 0],(.struct [(0,1,false),(1,1,false),(2,1,false)])⟩),
  (78,⟨2,16,true,some [.int .i64 0,.int .u64 0],(.struct [(0,1,false),(1,1,false)])⟩),
  (85,⟨5,40,true,some [.int .u64 0,.int .u64 0,.int .u64 0,.int .u64 0,.int .i64 0],(.struct [(0,1,false),(1,1,false),(2,1,false),(3,1,false),(4,1,false)])⟩),
  (98,⟨5,40,true,some [.int .i64 0,.int .i64 0,.int .u64 0,.int .u64 0,.int .i64 0],(.struct [(0,1,false),(1,1,false),(2,1,false),(3,1,false),(4,1,false)])⟩),
  (100,⟨1,8,false,some [.int .u64 0],(.int .u64)⟩),
  (111,⟨1,24,false,some [.nil],(.slice 24 13)⟩)]
 F:=[(3,408),(4,144),(5,409),(6,368),(7,385),(8,190),(9,304),(10,194),(11,410),(12,411),(13,320),(14,6),(15,206),(16,331),(17,376),(18,334),(19,113),(20,394),(21,213),(22,229),(23,392),(24,236),(25,238),(26,239),(27,7),(28,244),(29,132),(30,301),(31,309),(32,298),(33,397),(34,248),(35,249),(36,260),(37,396),(38,263),(39,265),(40,266),(41,267),(42,319),(43,321),(44,332),(45,330),(46,311),(47,271),(48,364),(49,290),(50,240),(51,300),(52,381),(53,393),(55,272),(56,275),(57,273),(58,274),(61,211),(62,316),(63,317),(64,333),(65,228),(66,318),(67,210),(68,374),(69,156),(70,5),(71,243),(72,323),(73,324),(74,325),(75,326),(76,388),(77,389),(78,390),(79,391),(80,328),(81,235),(82,237),(83,276),(84,277),(86,259),(87,242),(88,204),(89,241),(90,335),(91,336),(92,264)]
 eqT:=[(26,[.i .u64,.i .i64,.i .i64,.i .i64,.i .i64]),(78,[.i .i64,.i .u64]),(85,[.i .u64,.i .u64,.i .u64,.i .u64,.i .i64])]
 adds:=[54]
def F:Nat→Option RF:=lk (tI10++tI11++tI13++tI15++tLBook++tLShard++tLStore++tLaws++tLibcmpCompareint++tLibcmpCompareuint64++tLibcmpOrint++tLibcmpisNaNint++tLibcmpisNaNuint64++tLibslicesContainsimplFinimplFin++tLibslicesIndexFuncimplShardimplShard++tLibslicesIndeximplFinimplFin++tS01d++tS10++tS11++tS13++tS15++tWFnHanded)
def tab:List (Nat×FuncId×RF):=[(408,3,r408),(144,4,r144),(409,5,r409),(368,6,r368),(385,7,r385),(190,8,r190),(304,9,r304),(194,10,r194),(410,11,r410),(411,12,r411),(320,13,r320),(6,14,r6),(206,15,r206),(331,16,r331),(334,18,r334),(113,19,r113),(394,20,r394),(213,21,r213),(229,22,r229),(392,23,r392),(236,24,r236),(238,25,r238),(239,26,r239),(7,27,r7),(244,28,r244),(132,29,r132),(301,30,r301),(309,31,r309),(298,32,r298),(397,33,r397),(248,34,r248),(249,35,r249),(260,36,r260),(396,37,r396),(263,38,r263),(265,39,r265),(266,40,r266),(267,41,r267),(319,42,r319),(321,43,r321),(311,46,r311),(271,47,r271),(364,48,r364),(290,49,r290),(240,50,r240),(300,51,r300),(381,52,r381),(393,53,r393),(272,55,r272),(275,56,r275),(273,57,r273),(274,58,r274),(211,61,r211),(316,62,r316),(317,63,r317),(333,64,r333),(228,65,r228),(318,66,r318),(210,67,r210),(374,68,r374),(156,69,r156),(5,70,r5),(243,71,r243),(323,72,r323),(324,73,r324),(325,74,r325),(326,75,r326),(388,76,r388),(389,77,r389),(390,78,r390),(391,79,r391),(328,80,r328),(235,81,r235),(237,82,r237),(276,83,r276),(277,84,r277),(259,86,r259),(242,87,r242),(204,88,r204),(241,89,r241),(335,90,r335),(336,91,r336),(264,92,r264)]
def tags:List (Nat×TypeId×Nat):=[(9,78,2),(11,85,5),(13,24,1),(15,3,1),(16,38,6),(19,5,1),(22,45,10)]
theorem inI10:AllT (fun x=>F x.1=some x.2) tI10:=⟨rfl,rfl,trivial⟩
theorem inI11:AllT (fun x=>F x.1=some x.2) tI11:=⟨rfl,trivial⟩
theorem inI13:AllT (fun x=>F x.1=some x.2) tI13:=⟨rfl,rfl,rfl,rfl,rfl,rfl,rfl,rfl,rfl,rfl,rfl,rfl,rfl,trivial⟩
theorem inI15:AllT (fun x=>F x.1=some x.2) tI15:=⟨rfl,rfl,rfl,rfl,rfl,rfl,rfl,rfl,trivial⟩
theorem inLBook:AllT (fun x=>F x.1=some x.2) tLBook:=⟨rfl,trivial⟩
theorem inLShard:AllT (fun x=>F x.1=some x.2) tLShard:=⟨rfl,trivial⟩
theorem inLStore:AllT (fun x=>F x.1=some x.2) tLStore:=⟨rfl,trivial⟩
theorem inLaws:AllT (fun x=>F x.1=some x.2) tLaws:=⟨rfl,trivial⟩
theorem inLibcmpCompareint:AllT (fun x=>F x.1=some x.2) tLibcmpCompareint:=⟨rfl,trivial⟩
theorem inLibcmpCompareuint64:AllT (fun x=>F x.1=some x.2) tLibcmpCompareuint64:=⟨rfl,trivial⟩
theorem inLibcmpOrint:AllT (fun x=>F x.1=some x.2) tLibcmpOrint:=⟨rfl,trivial⟩
theorem inLibcmpisNaNint:AllT (fun x=>F x.1=some x.2) tLibcmpisNaNint:=⟨rfl,trivial⟩
theorem inLibcmpisNaNuint64:AllT (fun x=>F x.1=some x.2) tLibcmpisNaNuint64:=⟨rfl,trivial⟩
theorem inLibslicesContainsimplFinimplFin:AllT (fun x=>F x.1=some x.2) tLibslicesContainsimplFinimplFin:=⟨rfl,trivial⟩
theorem inLibslicesIndexFuncimplShardimplShard:AllT (fun x=>F x.1=some x.2) tLibslicesIndexFuncimplShardimplShard:=⟨rfl,trivial⟩
theorem inLibslicesIndeximplFinimplFin:AllT (fun x=>F x.1=some x.2) tLibslicesIndeximplFinimplFin:=⟨rfl,trivial⟩
theorem inS01d:AllT (fun x=>F x.1=some x.2) tS01d:=⟨rfl,rfl,rfl,rfl,rfl,rfl,rfl,rfl,trivial⟩
theorem inS10:AllT (fun x=>F x.1=some x.2) tS10:=⟨rfl,rfl,rfl,rfl,rfl,rfl,rfl,rfl,rfl,rfl,rfl,rfl,rfl,rfl,rfl,trivial⟩
theorem inS11:AllT (fun x=>F x.1=some x.2) tS11:=⟨rfl,trivial⟩
theorem inS13:AllT (fun x=>F x.1=some x.2) tS13:=⟨rfl,rfl,rfl,rfl,rfl,rfl,rfl,rfl,rfl,rfl,rfl,rfl,rfl,rfl,rfl,rfl,rfl,rfl,rfl,rfl,trivial⟩
theorem inS15:AllT (fun x=>F x.1=some x.2) tS15:=⟨rfl,rfl,rfl,rfl,trivial⟩
theorem inWFnHanded:AllT (fun x=>F x.1=some x.2) tWFnHanded:=⟨rfl,trivial⟩
open Go.Shelf
def ptab:List (Nat×FuncId×PrimF):=[(376,17,(delF 22)),(332,44,(insF 16 80)),(330,45,(delF 16))]
theorem i45:(Try.prog.info? 45).isSome=true:=by kernel_rfl
noncomputable def inf45:TypeInfo:=(Try.prog.info? 45).get i45
theorem z45:inf45.zero.isSome=true:=by kernel_rfl
noncomputable def zv45:Value:=inf45.zero.get z45
theorem p376:Z.DelT Try.prog (renD 17 3 4 45 55) 10 zv45 where
 mixed:=by kernel_rfl
 f45 := ⟨(Try.prog.funcs[17]?.map (·.name)).getD "", by kernel_rfl, by kernel_rfl⟩
 t3:=by kernel_rfl
 t4:=by kernel_rfl
 t22:=by kernel_rfl
 i23:=⟨inf45,(Option.some_get i45).symm,by kernel_rfl,by kernel_rfl,by decide,(Option.some_get z45).symm,List.all_eq_true.1 (show (zv45.cells.toList.all (·.oneCell'))=true from by kernel_rfl)⟩
theorem i38:(Try.prog.info? 38).isSome=true:=by kernel_rfl
noncomputable def inf38:TypeInfo:=(Try.prog.info? 38).get i38
theorem z38:inf38.zero.isSome=true:=by kernel_rfl
noncomputable def zv38:Value:=inf38.zero.get z38
theorem p332:Z.InsT Try.prog (renI 44 59 60 3 4 38 27) 6 80 zv38 where
 mixed:=by kernel_rfl
 f22 := ⟨(Try.prog.funcs[44]?.map (·.name)).getD "", by kernel_rfl, by kernel_rfl⟩
 f29:=⟨Try.f59,Try.func59,by kernel_rfl,by kernel_rfl,by kernel_rfl,by kernel_rfl⟩
 t3:=by kernel_rfl
 t4:=by kernel_rfl
 t24:=by kernel_rfl
 i9:=⟨inf38,(Option.some_get i38).symm,by kernel_rfl,by kernel_rfl,(Option.some_get z38).symm,by kernel_rfl,by decide⟩
theorem p330:Z.DelT Try.prog (renD 45 3 4 38 27) 6 zv38 where
 mixed:=by kernel_rfl
 f45 := ⟨(Try.prog.funcs[45]?.map (·.name)).getD "", by kernel_rfl, by kernel_rfl⟩
 t3:=by kernel_rfl
 t4:=by kernel_rfl
 t22:=by kernel_rfl
 i23:=⟨inf38,(Option.some_get i38).symm,by kernel_rfl,by kernel_rfl,by decide,(Option.some_get z38).symm,List.all_eq_true.1 (show (zv38.cells.toList.all (·.oneCell'))=true from by kernel_rfl)⟩
theorem ok408:FnOk Try.prog c F (408,3,r408):=⟨Try.f3,[],[[3,4,5,7,8],[2,0,1,3,4,5,6,7,8,9,12,10,11,13,14,15,16,17],[0,1,2,3,4,5,6,7,8,9,10,11,12,13,14,15,16,17],[],[]],Try.func3,by kernel_rfl,by kernel_rfl,by kernel_rfl⟩
theorem ok144:FnOk Try.prog c F (144,4,r144):=⟨Try.f4,[],[],Try.func4,by kernel_rfl,by kernel_rfl,by kernel_rfl⟩
theorem ok409:FnOk Try.prog c F (409,5,r409):=⟨Try.f5,[],[[3,4,0,1,2,5,6,7,8,9],[0,3,4,5,6,1,7,2,8,9],[2,3],[0,1,2,5]],Try.func5,by kernel_rfl,by kernel_rfl,by kernel_rfl⟩
theorem ok368:FnOk Try.prog c F (368,6,r368):=⟨Try.f6,[5,6],[[0,1,2,3,4,5],[0,3,1,4,2,5],[8,9],[],[4,5,6,8,9,10,11,61,62,63],[8,0,1,2,3,4,5,6,7,9,10],[0,1,2,3,4,5,6,8,9,7,10],[],[],[0,1,2,3,4,5],[0,3,1,4,2,5],[8,9],[]],Try.func6,by kernel_rfl,by kernel_rfl,by kernel_rfl⟩
theorem ok385:FnOk Try.prog c F (385,7,r385):=⟨Try.f7,[],[[2,3,5],[2,7,0,1,3,4,5,6,8,9,10,11],[0,1,2,3,4,5,6,7,8,9,10,11],[],[]],Try.func7,by kernel_rfl,by kernel_rfl,by kernel_rfl⟩
theorem ok190:FnOk Try.prog c F (190,8,r190):=⟨Try.f8,[],[],Try.func8,by kernel_rfl,by kernel_rfl,by kernel_rfl⟩
theorem ok304:FnOk Try.prog c F (304,9,r304):=⟨Try.f9,[],[],Try.func9,by kernel_rfl,by kernel_rfl,by kernel_rfl⟩
theorem ok194:FnOk Try.prog c F (194,10,r194):=⟨Try.f10,[31],[[0,3,4]],Try.func10,by kernel_rfl,by kernel_rfl,by kernel_rfl⟩
theorem ok410:FnOk Try.prog c F (410,11,r410):=⟨Try.f11,[],[[2,0,1,3,4,5,6],[0,1,2,3,4,5,6],[],[1,3],[2,0,1,3,4,5,6,7,8,9,10,11],[0,1,2,3,4,5,6,7,8,9,10,11],[],[1,6],[0,1,2,3,4,5],[0,3,1,4,2,5],[4,5],[]],Try.func11,by kernel_rfl,by kernel_rfl,by kernel_rfl⟩
theorem ok411:FnOk Try.prog c F (411,12,r411):=⟨Try.f12,[],[[0,5,6]],Try.func12,by kernel_rfl,by kernel_rfl,by kernel_rfl⟩
theorem ok320:FnOk Try.prog c F (320,13,r320):=⟨Try.f13,[],[[2,3,12,13,14],[0,1,2,3,4,5,6,7],[0,1,2,3,4,5,6,7],[],[]],Try.func13,by kernel_rfl,by kernel_rfl,by kernel_rfl⟩
theorem ok6:FnOk Try.prog c F (6,14,r6):=⟨Try.f14,[],[],Try.func14,by kernel_rfl,by kernel_rfl,by kernel_rfl⟩
theorem ok206:FnOk Try.prog c F (206,15,r206):=⟨Try.f15,[],[[1,26,27,28],[0,1,2,3,4,5,6,7,8,9,10,11,12,13,16,17,14,15,18,19,20,21,22,23,24,25],[0,1,2,3,4,5,6,7,8,9,10,11,12,13,14,15,16,17,18,19,20,21,22,23,24,25],[],[]],Try.func15,by kernel_rfl,by kernel_rfl,by kernel_rfl⟩
theorem ok331:FnOk Try.prog c F (331,16,r331):=⟨Try.f16,[],[[9,0,1,2,3,4,5,6,7,8,10],[0,1,2,3,4,5,6,7,8,9,10],[],[]],Try.func16,by kernel_rfl,by kernel_rfl,by kernel_rfl⟩
theorem ok334:FnOk Try.prog c F (334,18,r334):=⟨Try.f18,[],[],Try.func18,by kernel_rfl,by kernel_rfl,by kernel_rfl⟩
theorem ok113:FnOk Try.prog c F (113,19,r113):=⟨Try.f19,[],[[0,1,2,3,4,5,6,7,8,9,10,11,12,13,14,15,16,17,18,19,20,21,22,23,24,25,26,27,28],[0,1,2,3,4,5,6,7,8,9,10,11,12,13,14,15,16,17,18,19,20,21,22,23,24,25,26,27,28],[],[]],Try.func19,by kernel_rfl,by kernel_rfl,by kernel_rfl⟩
theorem ok394:FnOk Try.prog c F (394,20,r394):=⟨Try.f20,[],[[2,3,5],[2,7,0,1,3,4,5,6,8,9,10],[0,1,2,3,4,5,6,7,8,9,10],[],[]],Try.func20,by kernel_rfl,by kernel_rfl,by kernel_rfl⟩
theorem ok213:FnOk Try.prog c F (213,21,r213):=⟨Try.f21,[4,5],[],Try.func21,by kernel_rfl,by kernel_rfl,by kernel_rfl⟩
theorem ok229:FnOk Try.prog c F (229,22,r229):=⟨Try.f22,[],[],Try.func22,by kernel_rfl,by kernel_rfl,by kernel_rfl⟩
theorem ok392:FnOk Try.prog c F (392,23,r392):=⟨Try.f23,[],[[0,6,7,8]],Try.func23,by kernel_rfl,by kernel_rfl,by kernel_rfl⟩
theorem ok236:FnOk Try.prog c F (236,24,r236):=⟨Try.f24,[],[],Try.func24,by kernel_rfl,by kernel_rfl,by kernel_rfl⟩
theorem ok238:FnOk Try.prog c F (238,25,r238):=⟨Try.f25,[],[],Try.func25,by kernel_rfl,by kernel_rfl,by kernel_rfl⟩
theorem ok239:FnOk Try.prog c F (239,26,r239):=⟨Try.f26,[],[],Try.func26,by kernel_rfl,by kernel_rfl,by kernel_rfl⟩
theorem ok7:FnOk Try.prog c F (7,27,r7):=⟨Try.f27,[],[],Try.func27,by kernel_rfl,by kernel_rfl,by kernel_rfl⟩
theorem ok244:FnOk Try.prog c F (244,28,r244):=⟨Try.f28,[],[[1,46,47,48],[1,76,77,78],[0,1,2,3,4,5,6,7,8,9,10,11,12,13,14,15,16,17,18,19,20,23,24,21,22,25,26,27,28,29,30,31],[0,1,2,3,4,5,6,7,8,9,10,11,12,13,14,15,16,17,18,19,20,21,22,23,24,25,26,27,28,29,30,31],[],[]],Try.func28,by kernel_rfl,by kernel_rfl,by kernel_rfl⟩
theorem ok132:FnOk Try.prog c F (132,29,r132):=⟨Try.f29,[],[],Try.func29,by kernel_rfl,by kernel_rfl,by kernel_rfl⟩
theorem ok301:FnOk Try.prog c F (301,30,r301):=⟨Try.f30,[],[],Try.func30,by kernel_rfl,by kernel_rfl,by kernel_rfl⟩
theorem ok309:FnOk Try.prog c F (309,31,r309):=⟨Try.f31,[],[[2,4,6,8,9,42,43,44]],Try.func31,by kernel_rfl,by kernel_rfl,by kernel_rfl⟩
theorem ok298:FnOk Try.prog c F (298,32,r298):=⟨Try.f32,[],[],Try.func32,by kernel_rfl,by kernel_rfl,by kernel_rfl⟩
theorem ok397:FnOk Try.prog c F (397,33,r397):=⟨Try.f33,[],[[2,3,5],[2,7,0,1,3,4,5,6,8,9,10],[0,1,2,3,4,5,6,7,8,9,10],[],[]],Try.func33,by kernel_rfl,by kernel_rfl,by kernel_rfl⟩
theorem ok248:FnOk Try.prog c F (248,34,r248):=⟨Try.f34,[],[[0,1,7,8]],Try.func34,by kernel_rfl,by kernel_rfl,by kernel_rfl⟩
theorem ok249:FnOk Try.prog c F (249,35,r249):=⟨Try.f35,[],[],Try.func35,by kernel_rfl,by kernel_rfl,by kernel_rfl⟩
theorem ok260:FnOk Try.prog c F (260,36,r260):=⟨Try.f36,[],[],Try.func36,by kernel_rfl,by kernel_rfl,by kernel_rfl⟩
theorem ok396:FnOk Try.prog c F (396,37,r396):=⟨Try.f37,[],[[2,0,1,3,4,5,6,7,8,9,10],[0,1,2,3,4,5,6,7,8,9,10],[],[1,6],[1,3,0,2,4,5,6,7,8],[0,1,2,3,4,5,6,8,7],[],[0,2],[1,0,2,3,4,5,6,7,8,9],[0,1,2,3,4,5,6,9,7,8],[],[0,3]],Try.func37,by kernel_rfl,by kernel_rfl,by kernel_rfl⟩
theorem ok263:FnOk Try.prog c F (263,38,r263):=⟨Try.f38,[],[[0,1,5,6,2,3,4,7,8,9,10,11,12],[0,1,2,3,4,5,6,7,8,9,10,11,12],[],[],[0,1,4,5,2,3,6,7,8,9],[0,1,2,3,4,5,6,7,8,9],[],[],[0,1,2,5,6,3,4,7,8,9,10,11,12,13,14],[0,1,2,3,4,5,6,7,8,9,10,11,12,13,14],[],[]],Try.func38,by kernel_rfl,by kernel_rfl,by kernel_rfl⟩
theorem ok265:FnOk Try.prog c F (265,39,r265):=⟨Try.f39,[],[[1,10,11,12],[0,1,2,3,4,5,6,7,8,9,10,11,12,13,14,15,16,17,18,19,20,21,22,23,24,25,26,27,30,31,28,29,32,33,34,35,36,37,38,39],[0,1,2,3,4,5,6,7,8,9,10,11,12,13,14,15,16,17,18,19,20,21,22,23,24,25,26,27,28,29,30,31,32,33,34,35,36,37,38,39],[],[]],Try.func39,by kernel_rfl,by kernel_rfl,by kernel_rfl⟩
theorem ok266:FnOk Try.prog c F (266,40,r266):=⟨Try.f40,[],[],Try.func40,by kernel_rfl,by kernel_rfl,by kernel_rfl⟩
theorem ok267:FnOk Try.prog c F (267,41,r267):=⟨Try.f41,[],[[0,1,2,3,5,6,7,8,4,9,10,11,12],[0,1,2,3,4,5,6,7,8,9,10,11,12],[],[]],Try.func41,by kernel_rfl,by kernel_rfl,by kernel_rfl⟩
theorem ok319:FnOk Try.prog c F (319,42,r319):=⟨Try.f42,[],[],Try.func42,by kernel_rfl,by kernel_rfl,by kernel_rfl⟩
theorem ok321:FnOk Try.prog c F (321,43,r321):=⟨Try.f43,[],[[1,2,4,10,11]],Try.func43,by kernel_rfl,by kernel_rfl,by kernel_rfl⟩
theorem ok311:FnOk Try.prog c F (311,46,r311):=⟨Try.f46,[],[[1,2,3,6,8,9,10],[5,6,7,0,1,2,3,4,8,9,10,11,12],[0,1,2,3,4,5,6,7,8,9,10,11,12],[],[],[3,6,0,1,2,4,5,7,8,9,10,11],[0,1,2,3,4,5,6,7,8,9,10,11],[],[],[0,1,2,3,4,5,6,7],[0,1,2,3,4,5,6,7],[],[]],Try.func46,by kernel_rfl,by kernel_rfl,by kernel_rfl⟩
theorem ok271:FnOk Try.prog c F (271,47,r271):=⟨Try.f47,[],[],Try.func47,by kernel_rfl,by kernel_rfl,by kernel_rfl⟩
theorem ok364:FnOk Try.prog c F (364,48,r364):=⟨Try.f48,[],[[11,12,2,3,8,0,1,4,5,6,7,9,10,13,14],[0,1,2,3,4,5,11,12,13,6,7,8,9,10,14],[9],[],[2,3,6,8,10,11,12],[6,0,1,2,3,4,5,7,8,9,10,11,12,13],[0,1,2,3,4,5,6,7,8,9,10,11,12,13],[],[],[2,3,6,8,10,11,13],[4,0,1,2,3,5,6,7,8,9],[0,1,2,3,4,5,6,7,8,9],[],[],[2,3,6,8,11,14,15],[4,0,1,2,3,5,6,7,8,9,10,11],[0,1,2,3,4,5,6,7,8,9,10,11],[],[]],Try.func48,by kernel_rfl,by kernel_rfl,by kernel_rfl⟩
theorem ok290:FnOk Try.prog c F (290,49,r290):=⟨Try.f49,[],[],Try.func49,by kernel_rfl,by kernel_rfl,by kernel_rfl⟩
theorem ok240:FnOk Try.prog c F (240,50,r240):=⟨Try.f50,[],[],Try.func50,by kernel_rfl,by kernel_rfl,by kernel_rfl⟩
theorem ok300:FnOk Try.prog c F (300,51,r300):=⟨Try.f51,[],[],Try.func51,by kernel_rfl,by kernel_rfl,by kernel_rfl⟩
theorem ok381:FnOk Try.prog c F (381,52,r381):=⟨Try.f52,[],[],Try.func52,by kernel_rfl,by kernel_rfl,by kernel_rfl⟩
theorem ok393:FnOk Try.prog c F (393,53,r393):=⟨Try.f53,[],[[0,3,4,5,6,7],[2,0,1,3,4,5,6,7],[0,1,2,3,4,5,6,7],[],[1,3]],Try.func53,by kernel_rfl,by kernel_rfl,by kernel_rfl⟩
theorem ok272:FnOk Try.prog c F (272,55,r272):=⟨Try.f55,[],[[0,3,7,8],[1,2,3,0,4,5],[0,1,2,3,4,5],[],[]],Try.func55,by kernel_rfl,by kernel_rfl,by kernel_rfl⟩
theorem ok275:FnOk Try.prog c F (275,56,r275):=⟨Try.f56,[],[[3,6,7,8]],Try.func56,by kernel_rfl,by kernel_rfl,by kernel_rfl⟩
theorem ok273:FnOk Try.prog c F (273,57,r273):=⟨Try.f57,[],[],Try.func57,by kernel_rfl,by kernel_rfl,by kernel_rfl⟩
theorem ok274:FnOk Try.prog c F (274,58,r274):=⟨Try.f58,[],[],Try.func58,by kernel_rfl,by kernel_rfl,by kernel_rfl⟩
theorem ok211:FnOk Try.prog c F (211,61,r211):=⟨Try.f61,[],[[1,2,5]],Try.func61,by kernel_rfl,by kernel_rfl,by kernel_rfl⟩
theorem ok316:FnOk Try.prog c F (316,62,r316):=⟨Try.f62,[],[],Try.func62,by kernel_rfl,by kernel_rfl,by kernel_rfl⟩
theorem ok317:FnOk Try.prog c F (317,63,r317):=⟨Try.f63,[],[[1,2,3,4],[4,0,1,2,3,5,6,7,8,9,10,11],[0,1,2,3,4,5,6,7,8,9,10,11],[],[]],Try.func63,by kernel_rfl,by kernel_rfl,by kernel_rfl⟩
theorem ok333:FnOk Try.prog c F (333,64,r333):=⟨Try.f64,[],[[1,2,4,8,9,10],[6,0,1,2,3,4,5,7,8,9,10,11,12,13],[0,1,2,3,4,5,6,7,8,9,10,11,12,13],[],[],[1,2,4,8,9,11],[4,0,1,2,3,5,6,7,8,9,10],[0,1,2,3,4,5,6,7,8,9,10],[],[]],Try.func64,by kernel_rfl,by kernel_rfl,by kernel_rfl⟩
theorem ok228:FnOk Try.prog c F (228,65,r228):=⟨Try.f65,[],[[1,2,3,4]],Try.func65,by kernel_rfl,by kernel_rfl,by kernel_rfl⟩
theorem ok318:FnOk Try.prog c F (318,66,r318):=⟨Try.f66,[],[[1,4,5,6]],Try.func66,by kernel_rfl,by kernel_rfl,by kernel_rfl⟩
theorem ok210:FnOk Try.prog c F (210,67,r210):=⟨Try.f67,[],[[1,2,3,7]],Try.func67,by kernel_rfl,by kernel_rfl,by kernel_rfl⟩
theorem ok374:FnOk Try.prog c F (374,68,r374):=⟨Try.f68,[],[[0,3,5,6,7],[0,1,2,4,5,6,3,7,8,9],[0,1,2,3,4,5,6,7,8,9],[],[]],Try.func68,by kernel_rfl,by kernel_rfl,by kernel_rfl⟩
theorem ok156:FnOk Try.prog c F (156,69,r156):=⟨Try.f69,[],[[1,3],[0,1,2,3,4,5,6,7,8,9,10,11,12,13,16,17,14,15,18,19,20,21,22,23,24,25],[0,1,2,3,4,5,6,7,8,9,10,11,12,13,14,15,16,17,18,19,20,21,22,23,24,25],[],[]],Try.func69,by kernel_rfl,by kernel_rfl,by kernel_rfl⟩
theorem ok5:FnOk Try.prog c F (5,70,r5):=⟨Try.f70,[],[],Try.func70,by kernel_rfl,by kernel_rfl,by kernel_rfl⟩
theorem ok243:FnOk Try.prog c F (243,71,r243):=⟨Try.f71,[],[[0,3,5],[0,1,2,3,4,5],[0,1,2,3,4,5],[],[]],Try.func71,by kernel_rfl,by kernel_rfl,by kernel_rfl⟩
theorem ok323:FnOk Try.prog c F (323,72,r323):=⟨Try.f72,[],[[1,2,4,6,7,8],[4,0,1,2,3,5,6,7,8,9,10],[0,1,2,3,4,5,6,7,8,9,10],[],[]],Try.func72,by kernel_rfl,by kernel_rfl,by kernel_rfl⟩
theorem ok324:FnOk Try.prog c F (324,73,r324):=⟨Try.f73,[],[[1,2,4,8,9],[4,0,1,2,3,5,6,7,8,9,10],[0,1,2,3,4,5,6,7,8,9,10],[],[]],Try.func73,by kernel_rfl,by kernel_rfl,by kernel_rfl⟩
theorem ok325:FnOk Try.prog c F (325,74,r325):=⟨Try.f74,[],[],Try.func74,by kernel_rfl,by kernel_rfl,by kernel_rfl⟩
theorem ok326:FnOk Try.prog c F (326,75,r326):=⟨Try.f75,[],[],Try.func75,by kernel_rfl,by kernel_rfl,by kernel_rfl⟩
theorem ok388:FnOk Try.prog c F (388,76,r388):=⟨Try.f76,[],[],Try.func76,by kernel_rfl,by kernel_rfl,by kernel_rfl⟩
theorem ok389:FnOk Try.prog c F (389,77,r389):=⟨Try.f77,[],[],Try.func77,by kernel_rfl,by kernel_rfl,by kernel_rfl⟩
theorem ok390:FnOk Try.prog c F (390,78,r390):=⟨Try.f78,[],[],Try.func78,by kernel_rfl,by kernel_rfl,by kernel_rfl⟩
theorem ok391:FnOk Try.prog c F (391,79,r391):=⟨Try.f79,[],[],Try.func79,by kernel_rfl,by kernel_rfl,by kernel_rfl⟩
theorem ok328:FnOk Try.prog c F (328,80,r328):=⟨Try.f80,[],[[1,2,5]],Try.func80,by kernel_rfl,by kernel_rfl,by kernel_rfl⟩
theorem ok235:FnOk Try.prog c F (235,81,r235):=⟨Try.f81,[],[],Try.func81,by kernel_rfl,by kernel_rfl,by kernel_rfl⟩
theorem ok237:FnOk Try.prog c F (237,82,r237):=⟨Try.f82,[],[],Try.func82,by kernel_rfl,by kernel_rfl,by kernel_rfl⟩
theorem ok276:FnOk Try.prog c F (276,83,r276):=⟨Try.f83,[],[],Try.func83,by kernel_rfl,by kernel_rfl,by kernel_rfl⟩
theorem ok277:FnOk Try.prog c F (277,84,r277):=⟨Try.f84,[],[],Try.func84,by kernel_rfl,by kernel_rfl,by kernel_rfl⟩
theorem ok259:FnOk Try.prog c F (259,86,r259):=⟨Try.f86,[],[[1,2,3,4],[4,0,1,2,3,5,6,7,8,9,10],[0,1,2,3,4,5,6,7,8,9,10],[],[]],Try.func86,by kernel_rfl,by kernel_rfl,by kernel_rfl⟩
theorem ok242:FnOk Try.prog c F (242,87,r242):=⟨Try.f87,[],[],Try.func87,by kernel_rfl,by kernel_rfl,by kernel_rfl⟩
theorem ok204:FnOk Try.prog c F (204,88,r204):=⟨Try.f88,[],[[1,3],[0,1,2,3,4,5,6,7,8,9,10,11,12,13,14,15,16,17,18,19,20,23,24,21,22,25,26,27,28,29,30,31],[0,1,2,3,4,5,6,7,8,9,10,11,12,13,14,15,16,17,18,19,20,21,22,23,24,25,26,27,28,29,30,31],[],[],[1,5]],Try.func88,by kernel_rfl,by kernel_rfl,by kernel_rfl⟩
theorem ok241:FnOk Try.prog c F (241,89,r241):=⟨Try.f89,[],[[1,3],[0,1,2,5,6,3,4,7,8,9,10,11,12,13,14,15,16,17,18,19,20,21,22,23,24,25,26,27,28,29,30,31,32,33],[0,1,2,3,4,5,6,7,8,9,10,11,12,13,14,15,16,17,18,19,20,21,22,23,24,25,26,27,28,29,30,31,32,33],[],[]],Try.func89,by kernel_rfl,by kernel_rfl,by kernel_rfl⟩
theorem ok335:FnOk Try.prog c F (335,90,r335):=⟨Try.f90,[],[],Try.func90,by kernel_rfl,by kernel_rfl,by kernel_rfl⟩
theorem ok336:FnOk Try.prog c F (336,91,r336):=⟨Try.f91,[],[[3,4,5,6],[2,0,1,3,4,5,6,7,8],[0,1,2,3,4,5,6,7,8],[],[]],Try.func91,by kernel_rfl,by kernel_rfl,by kernel_rfl⟩
theorem ok264:FnOk Try.prog c F (264,92,r264):=⟨Try.f92,[],[[0,3,4]],Try.func92,by kernel_rfl,by kernel_rfl,by kernel_rfl⟩
theorem okT:(c.T.all fun x=>x.2.okB Try.prog (mkCfgZ Try.prog tab ptab tags).ET (mkCfgZ Try.prog tab ptab tags).SZ x.1)=true:=by kernel_rfl
theorem okF:(c.F.all fun x=>decide ((mkCfgZ Try.prog tab ptab tags).G x.2=some x.1))=true:=by kernel_rfl
theorem okTab:AllT (FnOk Try.prog c F) tab:=⟨ok408,ok144,ok409,ok368,ok385,ok190,ok304,ok194,ok410,ok411,ok320,ok6,ok206,ok331,ok334,ok113,ok394,ok213,ok229,ok392,ok236,ok238,ok239,ok7,ok244,ok132,ok301,ok309,ok298,ok397,ok248,ok249,ok260,ok396,ok263,ok265,ok266,ok267,ok319,ok321,ok311,ok271,ok364,ok290,ok240,ok300,ok381,ok393,ok272,ok275,ok273,ok274,ok211,ok316,ok317,ok333,ok228,ok318,ok210,ok374,ok156,ok5,ok243,ok323,ok324,ok325,ok326,ok388,ok389,ok390,ok391,ok328,ok235,ok237,ok276,ok277,ok259,ok242,ok204,ok241,ok335,ok336,ok264,trivial⟩
theorem okP:AllT (PFn Try.prog F) ptab:=⟨⟨⟨Try.f17,Try.func17,by kernel_rfl,by kernel_rfl⟩,rfl,step_del _⟩,⟨⟨Try.f44,Try.func44,by kernel_rfl,by kernel_rfl⟩,rfl,step_ins _ _⟩,⟨⟨Try.f45,Try.func45,by kernel_rfl,by kernel_rfl⟩,rfl,step_del _⟩,trivial⟩
theorem prog (O:Nat):ProgOk ((mkCfgZ Try.prog tab ptab tags).at O) c F (primZ ptab):=
 mkProgZ okT okF okTab okP ⟨⟨Try.f54,Try.func54,by kernel_rfl,by kernel_rfl,by kernel_rfl,by kernel_rfl⟩,trivial⟩ ⟨⟨by kernel_rfl,by kernel_rfl,by kernel_rfl⟩,⟨by kernel_rfl,by kernel_rfl,by kernel_rfl⟩,⟨by kernel_rfl,by kernel_rfl,by kernel_rfl⟩,trivial⟩ O ⟨del_ok (ρ:=renD 17 3 4 45 55) (k:=10) rfl rfl p376,ins_ok (ρ:=renI 44 59 60 3 4 38 27) (k:=6) rfl rfl p332,del_ok (ρ:=renD 45 3 4 38 27) (k:=6) rfl rfl p330,trivial⟩
theorem pr376:PrimAt F (primZ ptab) 376 (delF 22):=primAt (ptab:=ptab) (n:=376) (x:=(17,(delF 22))) rfl rfl
theorem pr332:PrimAt F (primZ ptab) 332 (insF 16 80):=primAt (ptab:=ptab) (n:=332) (x:=(44,(insF 16 80))) rfl rfl
theorem pr330:PrimAt F (primZ ptab) 330 (delF 16):=primAt (ptab:=ptab) (n:=330) (x:=(45,(delF 16))) rfl rfl
end Go.Proofs.Ytjaideekkbpalaa.A.Handed
namespace Go.Proofs.Ytjaideekkbpalaa.A
open Go
set_option linter.unusedSimpArgs false
set_option linter.unusedVariables false
theorem hand_eqs (lo f t e p:Int):eqsR false [.i .u64,.i .i64,.i .i64,.i .i64,.i .i64] (some (.agg [.int .u64 lo,.int .i64 f,.int .i64 t,.int .i64 e,.int .i64 p])) (some (.agg [.int .u64 lo,.int .i64 f,.int .i64 t,.int .i64 e,.int .i64 p]))=some (.bool true):=by
 have hc:cellsEq? [.i .u64,.i .i64,.i .i64,.i .i64,.i .i64] [.int .u64 lo,.int .i64 f,.int .i64 t,.int .i64 e,.int .i64 p] [.int .u64 lo,.int .i64 f,.int .i64 t,.int .i64 e,.int .i64 p]=some true:=by simp[cellsEq?,eqK]
 simp only[eqsR,hc,List.length_cons,List.length_nil,and_self,if_true,Option.bind_some]
 rfl
def Shard.awakeAt (lo:Int) (x:Shard):Bool:=(x.lo==lo)&&(x.state==0)
section
variable {F:Nat→Option RF} {Z:CallF} {g h:Heap}
set_option maxHeartbeats 4000000 in
set_option maxRecDepth 8000 in
theorem handed_turn {z:Cell} {xs:List Shard} {p:List Nat} {c5:List Cell} {lo f t e ph gr sn:Int} (w:SlR 16 Shard.RI h z xs p) (b:Bool) {i:Nat} (hi:i<xs.length):
 loop F Z [3,4,5,7,8] r408L0 ⟨[(7,.c (.bool b)),(8,.c (.int .i64 (i:Nat)))],[(3,3,0),(4,4,0),(5,5,0)],[(3,[.int .u64 lo,.int .i64 f,.int .i64 t,.int .i64 e,.int .i64 ph]),(4,[.int .i64 gr,.int .i64 sn,z]),(5,c5)],h⟩=
  loop F Z [3,4,5,7,8] r408L0 ⟨[(7,.c (.bool (b||xs[i].awakeAt lo))),(8,.c (.int .i64 ((i+1:Nat):Int)))],[(3,3,0),(4,4,0),(5,5,0)],[(3,[.int .u64 lo,.int .i64 f,.int .i64 t,.int .i64 e,.int .i64 ph]),(4,[.int .i64 gr,.int .i64 sn,z]),(5,c5)],h⟩:=by
 have hle:=w.le2
 have hlt:(i:Int)<xs.length:=by omega
 have hws:=wrapS i (by omega)
 have hli:=w.idx hi
 have hwl:=w.len
 obtain ⟨r,f',hld,hr,_⟩:=w.one hi
 obtain ⟨x1,p1,x2,p2,rfl,rfl,u1,u2⟩:=hr
 clear w u1 u2
 unfold Shard.awakeAt
 generalize xs[i]=x at *
 rw[loop_run]
 conv in (codeF _ _ r408L0 _)=>unfold r408L0
 cases q1:(x.lo==lo) with
 | false=>
   simp only[rn,RO.dst,lk,drop,Nat.reduceBEq,Nat.reduceAdd,Nat.reduceLeDiff,↓reduceIte,reduceCtorEq,List.replicate_succ,List.replicate_zero,fills,and_self,List.set_cons_zero,List.set_cons_succ,Nat.reduceLT,Nat.zero_lt_succ,Nat.zero_lt_one,hwl,hlt,hli,hld,q1,hws,Bool.false_and,Bool.or_false]
 | true=>
 cases q2:(x.state==0) with
 | false=>
   simp only[rn,RO.dst,lk,drop,Nat.reduceBEq,Nat.reduceAdd,Nat.reduceLeDiff,↓reduceIte,reduceCtorEq,List.replicate_succ,List.replicate_zero,fills,and_self,List.set_cons_zero,List.set_cons_succ,Nat.reduceLT,Nat.zero_lt_succ,Nat.zero_lt_one,hwl,hlt,hli,hld,q1,q2,hws,Bool.and_false,Bool.or_false]
 | true=>
   simp only[rn,RO.dst,lk,drop,Nat.reduceBEq,Nat.reduceAdd,Nat.reduceLeDiff,↓reduceIte,reduceCtorEq,List.replicate_succ,List.replicate_zero,fills,and_self,List.set_cons_zero,List.set_cons_succ,Nat.reduceLT,Nat.zero_lt_succ,Nat.zero_lt_one,hwl,hlt,hli,hld,q1,q2,hws,Bool.and_self,Bool.or_true]
set_option maxHeartbeats 4000000 in
set_option maxRecDepth 8000 in
theorem law_Handed (hI10:Has F tI10) (hI11:Has F tI11) (hI13:Has F tI13) (hI15:Has F tI15) (hLBook:Has F tLBook) (hLShard:Has F tLShard) (hLStore:Has F tLStore) (hLaws:Has F tLaws) (hLibcmpCompareint:Has F tLibcmpCompareint) (hLibcmpCompareuint64:Has F tLibcmpCompareuint64) (hLibcmpOrint:Has F tLibcmpOrint) (hLibcmpisNaNint:Has F tLibcmpisNaNint) (hLibcmpisNaNuint64:Has F tLibcmpisNaNuint64) (hLibslicesContainsimplFinimplFin:Has F tLibslicesContainsimplFinimplFin) (hLibslicesIndexFuncimplShardimplShard:Has F tLibslicesIndexFuncimplShardimplShard) (hLibslicesIndeximplFinimplFin:Has F tLibslicesIndeximplFinimplFin) (hS01d:Has F tS01d) (hS10:Has F tS10) (hS11:Has F tS11) (hS13:Has F tS13) (hS15:Has F tS15) (hWFnHanded:Has F tWFnHanded) (pr330:PrimAt F Z 330 (delF 16)) (pr332:PrimAt F Z 332 (insF 16 80)) (pr376:PrimAt F Z 376 (delF 22))
 (h:Heap) (avs:List V) (hfl:h.floor=h.next) (w:ArgsWf h 8 [shUint8S] avs): ∃h',call F Z 408 avs h=some (.c (.bool true),h'):=by
 obtain ⟨x,_,rfl,xw,w1⟩:=ArgsWf.slice w
 obtain ⟨code,v,hby⟩:=Wf.areBytes xw
 obtain rfl:=w1.nil
 have f0:h.floor≤h.next:=by omega
 have k:KI F:=⟨hI10,hI11,hI13,hLibcmpCompareint,hLibcmpCompareuint64,hLibcmpOrint,hLibcmpisNaNint,hLibcmpisNaNuint64,hLibslicesIndeximplFinimplFin,hLibslicesContainsimplFinimplFin⟩
 have ks:KS F:=⟨hS01d,hS10,hS13⟩
 have hL:=hLibslicesIndexFuncimplShardimplShard
 rw[call_run F Z (hWFnHanded.lk (g:=408) rfl) _ _ rfl]
 have hb:=big_run (Z:=Z) hLaws v
 by_cases hbig:(code.length:Int)>1048576
 ·rw[decide_eq_true hbig] at hb
  simp only[rn,RO.dst,lk,drop,Nat.reduceBEq,Nat.reduceAdd,Nat.reduceLeDiff,↓reduceIte,reduceCtorEq,hb]
  exact ⟨_,rfl⟩
 rw[decide_eq_false hbig] at hb
 obtain ⟨H,s,n,K,hK,cs,g0,fp,fy,ops,y,e0,o0,v0,rd,hsn,_,_,_⟩:=DrawRightHand_c (Z:=Z) ks hS11 hS15 f0 v
 obtain ⟨l1,l2,l3⟩:=Store.lenI v0
 have hl8:=rd.g.good.len
 have vt:Store.RI g0 [.int .i64 2,.int .i64 n,.nil] (Store.void 2 n) []:=⟨.nil,[],rfl,rfl,SlR.nil _ _ _⟩
 -- is it active?
 have hany:s.shards.any (Shard.awakeAt H.lo)=(s.shards[K].state==0):=by
  rw[←findI_any]
  by_cases hst:s.shards[K].state=0
  ·have:=rd.g.good.findAt_is hK rd.lo.symm hst
   rw[show findI (Shard.awakeAt H.lo) s.shards=(K:Int) from this,hst]
   simp
  ·have:=rd.g.good.findAt_not hK rd.lo.symm hst
   rw[show findI (Shard.awakeAt H.lo) s.shards= -1 from this]
   have h0:(s.shards[K].state==0)=false:=by simpa using hst
   rw[h0];rfl
 -- the orders
 have oH:=On.push g0 (handed.map int_enc)
 have wH:SlR 15 (Fl int_enc) (g0.push (handed.map int_enc)) (.sl 15 g0.next 0 handed.length) handed [g0.next]:=SlR.ofFlat (by decide) (push_get _ _) (by rw[push_next];omega)
 have okH:H.Ok:=by
  have h1:=rd.e1
  have h2:=rd.e3
  have h3:=rd.g.good.sn
  have hx:=rd.xok.lo
  have hlo:=rd.lo
  have hfr:=rd.fr
  have hto:=rd.to
  have hph:=rd.ph
  exact ⟨by omega,by omega,by omega,by omega,by omega⟩
 have v0p:=Store.okI.on v0 oH
 have vtp:=Store.okI.on vt oH
 have p1:=o0.trans oH
 obtain ⟨ca,cb,g2,f1,f2,e2,o2,va,vb,_,_,_⟩:=PlayHand_c (Z:=Z) k hI15 hL pr330 pr332 pr376 (p1.le f0) H okH v0p vtp wH.vw rd.g.ok rd.g.small rd.tgood.ok rd.tgood.small (fun z hz=>by
  simp only[handed,List.mem_cons,List.not_mem_nil,or_false] at hz
  omega)
 have p2:=p1.trans o2
 rw[rd.handed] at e2 va vb
 simp only[handed,List.map_cons,List.map_nil,int_enc,List.length_cons,List.length_nil,Nat.zero_add,Nat.reduceAdd] at e2
 obtain ⟨a1,a2,a3⟩:=Store.lenI va
 obtain ⟨b1,b2,b3⟩:=Store.lenI vb
 have v02:=Store.okI.on v0p o2
 have vt2:=Store.okI.on vtp o2
 have v0':=v0
 obtain ⟨z,q,rfl,rfl,w0⟩:=v0'
 have hwl:=w0.len
 have lp:=loop_goesF (F:=F) (Z:=Z) (live:=[3,4,5,7,8]) (b:=r408L0) s.shards.length (fun i=>⟨[(7,.c (.bool ((s.shards.take i).any (Shard.awakeAt H.lo)))),(8,.c (.int .i64 (i:Nat)))],[(3,3,0),(4,4,0),(5,5,0)],[(3,[.int .u64 H.lo,.int .i64 H.from_,.int .i64 H.to,.int .i64 H.epoch,.int .i64 H.phase]),(4,[.int .i64 s.group,.int .i64 s.seen,z]),(5,[.int .i64 2,.int .i64 n,.nil])],g0⟩) (fun i hi=>by
  rw[handed_turn w0 _ hi,List.take_add_one,List.getElem?_eq_getElem hi,List.any_append]
  simp)
 simp only[show ((0:Nat):Int)=0 from rfl,List.take_zero,List.any_nil,List.take_length,hany] at lp
 have hend: ¬((s.shards.length:Nat):Int)<s.shards.length:=by omega
 have hee:=hand_eqs H.lo H.from_ H.to H.epoch H.phase
 simp only[Hand.enc] at e0 e2
 cases hst:(s.shards[K].state==0) with
 | false=>
   rw[hst] at e2 va vb lp
   simp only[cond_false] at e2 va vb lp
   have es1:=sameStore_r (Z:=Z) hLStore hLShard hLBook va v02
   have es2:=sameStore_r (Z:=Z) hLStore hLShard hLBook vb vt2
   simp only[decide_true] at es1 es2
   simp only[rn,RO.dst,lk,drop,Nat.reduceBEq,Nat.reduceAdd,Nat.reduceLeDiff,↓reduceIte,reduceCtorEq,List.replicate_succ,List.replicate_zero,fills,and_self,List.set_cons_zero,List.set_cons_succ,Nat.reduceLT,Nat.zero_lt_succ,Nat.zero_lt_one,hb,e0,lp]
   rw[loop_run]
   conv in (codeF _ _ r408L0 _)=>unfold r408L0
   simp only[rn,RO.dst,lk,drop,Nat.reduceBEq,Nat.reduceAdd,Nat.reduceLeDiff,↓reduceIte,reduceCtorEq,List.replicate_succ,List.replicate_zero,fills,and_self,List.set_cons_zero,List.set_cons_succ,Nat.reduceLT,Nat.zero_lt_succ,Nat.zero_lt_one,hwl,hend,e2,a1,a2,a3,b1,b2,b3,hee,es1,es2]
   exact ⟨_,rfl⟩
 | true=>
   have ha:s.shards[K].state=0:=by simpa using hst
   rw[hst] at e2 va vb lp
   simp only[cond_true] at e2 va vb lp
   have W:=rd.froze ha
   have sgr:=rd.regood ha
   have hwi:IntKind.i64.wrap ((s.shards.length:Int)-1)=(s.shards.length:Int)-1:=wrapI _ (by omega) (by omega)
   have hwe:IntKind.i64.wrap (H.epoch+1)=H.epoch+1:=wrapI _ (by have:=rd.e1;have:=rd.g.good.sn;omega) (by have:=rd.e3;omega)
   obtain ⟨c3,g3,f3,e3,o3,u3,_⟩:=ExportShard_c (Z:=Z) k hL (p2.le f0) va H.lo sgr.ok sgr.small
   have hgone:exportShard ((fz H s).without K) H.lo=(Shard.none_,false):=by
    have h1:=W.good.gone W.hk 1
    have h2:((fz H s).shards[K]'W.hk).lo=H.lo:=by rw[W.at_,rd.lo];rfl
    rw[h2] at h1
    exact export_gone h1
   rw[hgone] at e3 u3
   obtain ⟨x1,x2,x3⟩:=Shard.lenI u3
   have p3:=p2.trans o3
   obtain ⟨c4,g4,f4,e4,o4,u4,_⟩:=HandSend_c (Z:=Z) k hI15 hL (p3.le f0) (H.at_ 3) (Store.okI.on va o3) sgr.ok sgr.small
   rw[(rd.rail ha).s3] at e4
   obtain ⟨m1,m2,m3⟩:=HandMsg.lenI u4
   obtain ⟨za,qa,rfl,_,wa⟩:=va
   obtain ⟨zb,qb,rfl,_,wb⟩:=vb
   have hla:=wa.len
   have hlb:=wb.len
   have hla2:(((fz H s).without K).shards.length:Int)=(s.shards.length:Int)-1:=by have:=W.left.1;omega
   have hlb2:((tk H s.shards[K]).shards.length:Int)=1:=rfl
   rw[hla2] at hla
   rw[hlb2] at hlb
   have hsa:((fz H s).without K).seen=H.epoch:=W.seen
   have hsb:(tk H s.shards[K]).seen=H.epoch+1:=rfl
   rw[hsa] at e2 e3 e4
   rw[hsb] at e2
   simp only[Hand.at_,Hand.enc] at e2 e4
   simp only[rn,RO.dst,lk,drop,Nat.reduceBEq,Nat.reduceAdd,Nat.reduceLeDiff,↓reduceIte,reduceCtorEq,List.replicate_succ,List.replicate_zero,fills,and_self,List.set_cons_zero,List.set_cons_succ,Nat.reduceLT,Nat.zero_lt_succ,Nat.zero_lt_one,hb,e0,lp]
   rw[loop_run]
   conv in (codeF _ _ r408L0 _)=>unfold r408L0
   have hw01:IntKind.i64.wrap ((0:Int)+1)=1:=rfl
   simp only[rn,RO.dst,lk,drop,Nat.reduceBEq,Nat.reduceAdd,Nat.reduceLeDiff,↓reduceIte,reduceCtorEq,List.replicate_succ,List.replicate_zero,fills,and_self,List.set_cons_zero,List.set_cons_succ,Nat.reduceLT,Nat.zero_lt_succ,Nat.zero_lt_one,hwl,hend,e2,bne_self_eq_false,Int.reduceBNe,hla,hlb,hw01,hwi,e3,x1,x2,x3,e4,m1,m2,m3,hwe,beq_self_eq_true]
   exact ⟨_,rfl⟩
end
end Go.Proofs.Ytjaideekkbpalaa.A
namespace Go.Proofs.Ytjaideekkbpalaa.A.Handed
open Go Go.ChangeShapes Go.WideShapes Go.ChangeAt Go.RowKit
theorem own:ownKnob Try.prog.godebug=none:=by kernel_rfl
set_option maxRecDepth 100000 in
theorem lifted (os:Os) (started:os.Started) (H:Type) (enc:TypeId×Value→H):
 ReturnsInHanded {} Try.checked os 3 .any (Rows.fnHandedSpec.pre6 enc Try.prog Try.f3 Rows.fnHandedRow.domain false) (Rows.fnHandedSpec.post enc Try.prog Try.f3 false true false false):=by
 refine returnsInHanded_of_change_sized (C:=Try.checked) own started (by kernel_rfl) Try.func3
  (ChangeSpec.witness6 (enc:=enc) (C:=Try.checked) false ⟨#[],#[.slice none 0 0],[]⟩ 8 (by kernel_rfl) (by kernel_rfl) (by kernel_rfl) (by kernel_rfl)) ?_
 intro W base args ds gs before hval hW _ _ _
 have hW':=hW
 obtain ⟨p,q,hA,hV,rfl,hfz,hnd⟩:=hW
 obtain ⟨rfl,rfl⟩:=trodVars_none hV
 have r0:DataW.TrodAll enc Try.prog W 0 (fun _=>true) true [22] args.toList ds p:=hA
 obtain ⟨_,_,d0,_,_,_,_,rfl,_,_,r1⟩:=trodAll_cons r0
 obtain ⟨_,rfl,_⟩:=trodAll_nil r1
 refine (law_calls (ts:=[22]) (ss:=[shUint8S]) prog (show (mkCfgZ Try.prog tab ptab tags).G 408=some 3 from by kernel_rfl) ⟨show shIs Try.prog (mkCfgZ Try.prog tab ptab tags).ET (mkCfgZ Try.prog tab ptab tags).SZ 8 22 shUint8S=true from by kernel_rfl,trivial⟩ (law_Handed inI10 inI11 inI13 inI15 inLBook inLShard inLStore inLaws inLibcmpCompareint inLibcmpCompareuint64 inLibcmpOrint inLibcmpisNaNint inLibcmpisNaNuint64 inLibslicesContainsimplFinimplFin inLibslicesIndexFuncimplShardimplShard inLibslicesIndeximplFinimplFin inS01d inS10 inS11 inS13 inS15 inWFnHanded pr330 pr332 pr376) (fun j t v h1=>hval j t v (by rw[Try.params3];exact (List.getElem?_toArray ..).trans h1)) hA).mono fun e W' ⟨he,bel⟩=> ?_
 subst he
 exact ⟨_,rfl,_,_,_,[],_,[],hW',trodAll_mk1 (shut_bool Try.underlying4 _),trodAll_below (by kernel_rfl) bel _ _ _ _ (by kernel_rfl) hA hA.lt,rfl,bel.frame _,fun h=>by cases h⟩
theorem over:Rows.fnHandedRow.holds Try.pinned (OpenSpec.ofChange Rows.fnHandedSpec):=
 OpenClaim.holds_of_wide 3 Try.f3 rfl rfl rfl rfl rfl rfl rfl ⟨rfl,rfl,rfl,rfl,rfl⟩ rfl rfl rfl rfl rfl (by kernel_rfl) Try.func3 (by kernel_rfl)
  (of_decide_eq_true (by kernel_rfl)) (by unfold Func.isWrapper;first | (rw[if_pos (by decide+kernel)];kernel_rfl) | (rw[if_neg (by decide+kernel)];exact ⟨rfl,rfl⟩))
  (fun os started H enc _=>lifted os started H enc)
end Go.Proofs.Ytjaideekkbpalaa.A.Handed
namespace Go.Proofs.Ytjaideekkbpalaa
/-- The row. -/
theorem fnHanded_holds:Rows.FnHandedSaid:=A.Handed.over
#print axioms fnHanded_holds
end Go.Proofs.Ytjaideekkbpalaa
