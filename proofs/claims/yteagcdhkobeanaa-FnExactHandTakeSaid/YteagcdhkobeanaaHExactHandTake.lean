/- FnExactHandTake: the statement, from the law of the abstract run. No condition. -/
import Derived.Test.YteagcdhkobeanaaHCExactHandTake2
import Derived.Test.YteagcdhkobeanaaB6
import Derived.Test.YteagcdhkobeanaaZ7
import Derived.Test.YteagcdhkobeanaaProg
import Derived.Test.YteagcdhkobeanaaRows
import Derived.ProofKit
import Derived.OpenShut
import Derived.ShutString
import Derived.ChangeOld
import Derived.Below
import Derived.SizedLaws
namespace Go.Proofs.Yteagcdhkobeanaa.A.ExactHandTake
open Go
set_option maxRecDepth 100000
def c:CC where
 T:=[(3,⟨1,8,false,some [.int .i64 0],(.int .i64)⟩),
  (4,⟨1,1,false,some [.bool false],.bool⟩),
  (22,⟨1,8,false,some [.int .u64 0],(.int .u64)⟩),
  (25,⟨1,24,false,some [.nil],(.slice 115 12)⟩),
  (27,⟨1,24,true,some [.nil],(.struct [(0,1,false)])⟩),
  (28,⟨1,24,false,some [.nil],(.slice 103 10)⟩),
  (30,⟨6,80,true,some [.int .u64 0,.int .u64 0,.int .i64 0,.int .i64 0,.nil,.nil],(.struct [(0,1,false),(1,1,false),(2,1,false),(3,1,false),(4,1,true),(5,1,false)])⟩),
  (32,⟨10,112,true,some [.int .i64 0,.int .u64 0,.int .i64 0,.int .i64 0,.int .u64 0,.int .u64 0,.int .i64 0,.int .i64 0,.nil,.nil],(.struct [(0,1,false),(1,1,false),(2,1,false),(3,1,false),(4,6,true)])⟩),
  (38,⟨1,24,false,some [.nil],(.slice 109 11)⟩),
  (40,⟨1,24,true,some [.nil],(.struct [(0,1,false)])⟩),
  (41,⟨1,24,false,some [.nil],(.slice 101 9)⟩),
  (43,⟨6,80,true,some [.int .u64 0,.int .u64 0,.int .i64 0,.int .i64 0,.nil,.nil],(.struct [(0,1,false),(1,1,false),(2,1,false),(3,1,false),(4,1,true),(5,1,false)])⟩),
  (45,⟨10,112,true,some [.int .i64 0,.int .u64 0,.int .i64 0,.int .i64 0,.int .u64 0,.int .u64 0,.int .i64 0,.int .i64 0,.nil,.nil],(.struct [(0,1,false),(1,1,false),(2,1,false),(3,1,false),(4,6,true)])⟩),
  (50,⟨1,24,false,some [.nil],(.slice 30 20)⟩),
  (52,⟨3,40,true,some [.int .i64 0,.int .i64 0,.nil],(.struct [(0,1,false),(1,1,false),(2,1,false)])⟩),
  (56,⟨1,24,false,some [.nil],(.slice 43 16)⟩),
  (58,⟨3,40,true,some [.int .i64 0,.int .i64 0,.nil],(.struct [(0,1,false),(1,1,false),(2,1,false)])⟩),
  (101,⟨2,16,true,some [.int .i64 0,.int .u64 0],(.struct [(0,1,false),(1,1,false)])⟩),
  (103,⟨2,16,true,some [.int .i64 0,.int .u64 0],(.struct [(0,1,false),(1,1,false)])⟩),
  (109,⟨5,40,true,some [.int .u64 0,.int .u64 0,.int .u64 0,.int .u64 0,.int .i64 0],(.struct [(0,1,false),(1,1,false),(2,1,false),(3,1,false),(4,1,false)])⟩),
  (115,⟨5,40,true,some [.int .u64 0,.int .u64 0,.int .u64 0,.int .u64 0,.int .i64 0],(.struct [(0,1,false),(1,1,false),(2,1,false),(3,1,false),(4,1,false)])⟩),
  (126,⟨1,24,false,some [.nil],(.slice 3 15)⟩)]
 F:=[(5,313),(6,82),(9,83),(12,87),(13,154),(15,155),(17,158),(18,191),(19,305),(21,314),(22,315),(23,292),(24,111),(26,112),(28,114),(29,203),(31,205),(33,207),(34,230),(35,192),(37,317),(38,300),(39,308),(40,297),(41,334),(42,322),(43,128),(44,129),(45,5),(46,130),(47,131),(50,133),(51,134),(52,210),(53,156),(54,228),(56,261),(57,232),(58,231),(60,234),(61,316),(62,318),(63,204),(64,320),(65,301),(66,309),(67,298),(68,262),(69,136),(70,137),(71,138),(72,7),(73,139),(74,140),(75,259),(76,213),(77,206),(78,229),(79,241),(80,242),(81,243),(82,319),(83,321),(84,244),(85,332),(86,330),(87,141),(88,142),(89,248),(90,249),(91,260),(92,265),(93,266),(94,267),(98,272),(99,275),(100,273),(101,274),(103,276),(104,277)]
 eqT:=[(101,[.i .i64,.i .u64])]
 adds:=[97]
def F:Nat→Option RF:=lk (tI10++tI11++tI13++tI15++tLAccount++tLBook++tLFin++tLHandMsg++tLShard++tLStore++tLibcmpCompareint++tLibcmpCompareuint64++tLibcmpOrint++tLibcmpisNaNint++tLibcmpisNaNuint64++tLibslicesContainsimplFinimplFin++tLibslicesIndexFuncimplShardimplShard++tLibslicesIndeximplFinimplFin++tS01d++tS10++tS13++tS15++tWHandTake)
def tab:List (Nat×FuncId×RF):=[(313,5,r313),(82,6,r82),(83,9,r83),(87,12,r87),(154,13,r154),(155,15,r155),(158,17,r158),(191,18,r191),(305,19,r305),(314,21,r314),(315,22,r315),(292,23,r292),(111,24,r111),(112,26,r112),(114,28,r114),(203,29,r203),(205,31,r205),(207,33,r207),(230,34,r230),(192,35,r192),(317,37,r317),(300,38,r300),(308,39,r308),(297,40,r297),(334,41,r334),(322,42,r322),(128,43,r128),(129,44,r129),(130,46,r130),(131,47,r131),(133,50,r133),(134,51,r134),(261,56,r261),(232,57,r232),(231,58,r231),(228,54,r228),(210,52,r210),(316,61,r316),(318,62,r318),(204,63,r204),(156,53,r156),(320,64,r320),(301,65,r301),(309,66,r309),(298,67,r298),(234,60,r234),(262,68,r262),(136,69,r136),(137,70,r137),(138,71,r138),(139,73,r139),(140,74,r140),(259,75,r259),(5,45,r5),(241,79,r241),(242,80,r242),(243,81,r243),(229,78,r229),(213,76,r213),(319,82,r319),(321,83,r321),(244,84,r244),(206,77,r206),(141,87,r141),(142,88,r142),(260,91,r260),(248,89,r248),(249,90,r249),(265,92,r265),(266,93,r266),(267,94,r267),(7,72,r7),(272,98,r272),(275,99,r275),(273,100,r273),(274,101,r274),(276,103,r276),(277,104,r277)]
def tags:List (Nat×TypeId×Nat):=[(9,101,2),(10,103,2),(11,109,5),(12,115,5),(15,3,1),(16,43,6),(20,30,6)]
theorem inI10:AllT (fun x=>F x.1=some x.2) tI10:=⟨rfl,rfl,trivial⟩
theorem inI11:AllT (fun x=>F x.1=some x.2) tI11:=⟨rfl,trivial⟩
theorem inI13:AllT (fun x=>F x.1=some x.2) tI13:=⟨rfl,rfl,rfl,rfl,rfl,rfl,rfl,rfl,rfl,rfl,rfl,rfl,trivial⟩
theorem inI15:AllT (fun x=>F x.1=some x.2) tI15:=⟨rfl,rfl,trivial⟩
theorem inLAccount:AllT (fun x=>F x.1=some x.2) tLAccount:=⟨rfl,rfl,rfl,rfl,rfl,rfl,rfl,trivial⟩
theorem inLBook:AllT (fun x=>F x.1=some x.2) tLBook:=⟨rfl,rfl,rfl,rfl,trivial⟩
theorem inLFin:AllT (fun x=>F x.1=some x.2) tLFin:=⟨rfl,rfl,rfl,rfl,rfl,rfl,rfl,trivial⟩
theorem inLHandMsg:AllT (fun x=>F x.1=some x.2) tLHandMsg:=⟨rfl,rfl,rfl,rfl,trivial⟩
theorem inLShard:AllT (fun x=>F x.1=some x.2) tLShard:=⟨rfl,rfl,rfl,rfl,rfl,rfl,rfl,rfl,rfl,trivial⟩
theorem inLStore:AllT (fun x=>F x.1=some x.2) tLStore:=⟨rfl,rfl,rfl,rfl,rfl,trivial⟩
theorem inLibcmpCompareint:AllT (fun x=>F x.1=some x.2) tLibcmpCompareint:=⟨rfl,trivial⟩
theorem inLibcmpCompareuint64:AllT (fun x=>F x.1=some x.2) tLibcmpCompareuint64:=⟨rfl,trivial⟩
theorem inLibcmpOrint:AllT (fun x=>F x.1=some x.2) tLibcmpOrint:=⟨rfl,trivial⟩
theorem inLibcmpisNaNint:AllT (fun x=>F x.1=some x.2) tLibcmpisNaNint:=⟨rfl,trivial⟩
theorem inLibcmpisNaNuint64:AllT (fun x=>F x.1=some x.2) tLibcmpisNaNuint64:=⟨rfl,trivial⟩
theorem inLibslicesContainsimplFinimplFin:AllT (fun x=>F x.1=some x.2) tLibslicesContainsimplFinimplFin:=⟨rfl,trivial⟩
theorem inLibslicesIndexFuncimplShardimplShard:AllT (fun x=>F x.1=some x.2) tLibslicesIndexFuncimplShardimplShard:=⟨rfl,trivial⟩
theorem inLibslicesIndeximplFinimplFin:AllT (fun x=>F x.1=some x.2) tLibslicesIndeximplFinimplFin:=⟨rfl,trivial⟩
theorem inS01d:AllT (fun x=>F x.1=some x.2) tS01d:=⟨rfl,trivial⟩
theorem inS10:AllT (fun x=>F x.1=some x.2) tS10:=⟨rfl,rfl,trivial⟩
theorem inS13:AllT (fun x=>F x.1=some x.2) tS13:=⟨rfl,rfl,rfl,rfl,rfl,rfl,rfl,rfl,rfl,rfl,rfl,rfl,trivial⟩
theorem inS15:AllT (fun x=>F x.1=some x.2) tS15:=⟨rfl,rfl,trivial⟩
theorem inWHandTake:AllT (fun x=>F x.1=some x.2) tWHandTake:=⟨rfl,trivial⟩
open Go.Shelf
def ptab:List (Nat×FuncId×PrimF):=[(332,85,(insF 16 80)),(330,86,(delF 16))]
theorem i43:(Try.prog.info? 43).isSome=true:=by kernel_rfl
noncomputable def inf43:TypeInfo:=(Try.prog.info? 43).get i43
theorem z43:inf43.zero.isSome=true:=by kernel_rfl
noncomputable def zv43:Value:=inf43.zero.get z43
theorem p332:Z.InsT Try.prog (renI 85 95 96 3 4 43 56) 6 80 zv43 where
 mixed:=by kernel_rfl
 f22 := ⟨(Try.prog.funcs[85]?.map (·.name)).getD "", by kernel_rfl, by kernel_rfl⟩
 f29:=⟨Try.f95,Try.func95,by kernel_rfl,by kernel_rfl,by kernel_rfl,by kernel_rfl⟩
 t3:=by kernel_rfl
 t4:=by kernel_rfl
 t24:=by kernel_rfl
 i9:=⟨inf43,(Option.some_get i43).symm,by kernel_rfl,by kernel_rfl,(Option.some_get z43).symm,by kernel_rfl,by decide⟩
theorem p330:Z.DelT Try.prog (renD 86 3 4 43 56) 6 zv43 where
 mixed:=by kernel_rfl
 f45 := ⟨(Try.prog.funcs[86]?.map (·.name)).getD "", by kernel_rfl, by kernel_rfl⟩
 t3:=by kernel_rfl
 t4:=by kernel_rfl
 t22:=by kernel_rfl
 i23:=⟨inf43,(Option.some_get i43).symm,by kernel_rfl,by kernel_rfl,by decide,(Option.some_get z43).symm,List.all_eq_true.1 (show (zv43.cells.toList.all (·.oneCell'))=true from by kernel_rfl)⟩
theorem ok313:FnOk Try.prog c F (313,5,r313):=⟨Try.f5,[],[[8,0,2,1,3,4,5,6,7,9,10],[0,1,2,3,4,5,6,8,9,7,10],[],[],[0,1,2,3,4],[0,1,2,3,4],[],[],[0,1,2,3,4],[0,1,2,3,4],[],[],[8,0,2,1,3,4,5,6,7,9,10],[0,1,2,3,4,5,6,8,9,7,10],[],[]],Try.func5,by kernel_rfl,by kernel_rfl,by kernel_rfl⟩
theorem ok82:FnOk Try.prog c F (82,6,r82):=⟨Try.f6,[],[],Try.func6,by kernel_rfl,by kernel_rfl,by kernel_rfl⟩
theorem ok83:FnOk Try.prog c F (83,9,r83):=⟨Try.f9,[],[],Try.func9,by kernel_rfl,by kernel_rfl,by kernel_rfl⟩
theorem ok87:FnOk Try.prog c F (87,12,r87):=⟨Try.f12,[],[],Try.func12,by kernel_rfl,by kernel_rfl,by kernel_rfl⟩
theorem ok154:FnOk Try.prog c F (154,13,r154):=⟨Try.f13,[],[],Try.func13,by kernel_rfl,by kernel_rfl,by kernel_rfl⟩
theorem ok155:FnOk Try.prog c F (155,15,r155):=⟨Try.f15,[],[],Try.func15,by kernel_rfl,by kernel_rfl,by kernel_rfl⟩
theorem ok158:FnOk Try.prog c F (158,17,r158):=⟨Try.f17,[],[],Try.func17,by kernel_rfl,by kernel_rfl,by kernel_rfl⟩
theorem ok191:FnOk Try.prog c F (191,18,r191):=⟨Try.f18,[],[],Try.func18,by kernel_rfl,by kernel_rfl,by kernel_rfl⟩
theorem ok305:FnOk Try.prog c F (305,19,r305):=⟨Try.f19,[],[],Try.func19,by kernel_rfl,by kernel_rfl,by kernel_rfl⟩
theorem ok314:FnOk Try.prog c F (314,21,r314):=⟨Try.f21,[],[],Try.func21,by kernel_rfl,by kernel_rfl,by kernel_rfl⟩
theorem ok315:FnOk Try.prog c F (315,22,r315):=⟨Try.f22,[],[],Try.func22,by kernel_rfl,by kernel_rfl,by kernel_rfl⟩
theorem ok292:FnOk Try.prog c F (292,23,r292):=⟨Try.f23,[],[],Try.func23,by kernel_rfl,by kernel_rfl,by kernel_rfl⟩
theorem ok111:FnOk Try.prog c F (111,24,r111):=⟨Try.f24,[],[],Try.func24,by kernel_rfl,by kernel_rfl,by kernel_rfl⟩
theorem ok112:FnOk Try.prog c F (112,26,r112):=⟨Try.f26,[],[],Try.func26,by kernel_rfl,by kernel_rfl,by kernel_rfl⟩
theorem ok114:FnOk Try.prog c F (114,28,r114):=⟨Try.f28,[],[],Try.func28,by kernel_rfl,by kernel_rfl,by kernel_rfl⟩
theorem ok203:FnOk Try.prog c F (203,29,r203):=⟨Try.f29,[],[[0,1,5]],Try.func29,by kernel_rfl,by kernel_rfl,by kernel_rfl⟩
theorem ok205:FnOk Try.prog c F (205,31,r205):=⟨Try.f31,[],[[0,3,4]],Try.func31,by kernel_rfl,by kernel_rfl,by kernel_rfl⟩
theorem ok207:FnOk Try.prog c F (207,33,r207):=⟨Try.f33,[],[[0,1,5],[0,1,2,4,5,6,3,7,8,9],[0,1,2,3,4,5,6,7,8,9],[],[]],Try.func33,by kernel_rfl,by kernel_rfl,by kernel_rfl⟩
theorem ok230:FnOk Try.prog c F (230,34,r230):=⟨Try.f34,[],[[0,1,5]],Try.func34,by kernel_rfl,by kernel_rfl,by kernel_rfl⟩
theorem ok192:FnOk Try.prog c F (192,35,r192):=⟨Try.f35,[],[],Try.func35,by kernel_rfl,by kernel_rfl,by kernel_rfl⟩
theorem ok317:FnOk Try.prog c F (317,37,r317):=⟨Try.f37,[],[[1,2,3,4],[4,0,1,2,3,5,6,7,8,9,10,11],[0,1,2,3,4,5,6,7,8,9,10,11],[],[]],Try.func37,by kernel_rfl,by kernel_rfl,by kernel_rfl⟩
theorem ok300:FnOk Try.prog c F (300,38,r300):=⟨Try.f38,[],[],Try.func38,by kernel_rfl,by kernel_rfl,by kernel_rfl⟩
theorem ok308:FnOk Try.prog c F (308,39,r308):=⟨Try.f39,[],[[2,3,4,6,8],[2,0,1,3,4,5,6,7,8,9,14,10,11,12,13,15,16,17,18,19],[0,1,2,3,4,5,6,7,8,9,10,11,12,13,14,15,16,17,18,19],[],[],[2,3,6,9,10,11,12],[0,1,2,5,3,4,6,7,8,9,10,11,12],[0,1,2,3,4,5,6,7,8,9,10,11,12],[],[],[4,0,1,2,3,5,6,7,8,9,10,11],[0,1,2,3,4,5,6,7,8,9,10,11],[],[]],Try.func39,by kernel_rfl,by kernel_rfl,by kernel_rfl⟩
theorem ok297:FnOk Try.prog c F (297,40,r297):=⟨Try.f40,[],[[3,6,8,9,10],[4,0,1,2,3,5,6,7,8,9,10,11],[0,1,2,3,4,5,6,7,8,9,10,11],[],[]],Try.func40,by kernel_rfl,by kernel_rfl,by kernel_rfl⟩
theorem ok334:FnOk Try.prog c F (334,41,r334):=⟨Try.f41,[],[],Try.func41,by kernel_rfl,by kernel_rfl,by kernel_rfl⟩
theorem ok322:FnOk Try.prog c F (322,42,r322):=⟨Try.f42,[],[[0,1,5]],Try.func42,by kernel_rfl,by kernel_rfl,by kernel_rfl⟩
theorem ok128:FnOk Try.prog c F (128,43,r128):=⟨Try.f43,[],[],Try.func43,by kernel_rfl,by kernel_rfl,by kernel_rfl⟩
theorem ok129:FnOk Try.prog c F (129,44,r129):=⟨Try.f44,[],[],Try.func44,by kernel_rfl,by kernel_rfl,by kernel_rfl⟩
theorem ok130:FnOk Try.prog c F (130,46,r130):=⟨Try.f46,[],[],Try.func46,by kernel_rfl,by kernel_rfl,by kernel_rfl⟩
theorem ok131:FnOk Try.prog c F (131,47,r131):=⟨Try.f47,[],[[0,3,4]],Try.func47,by kernel_rfl,by kernel_rfl,by kernel_rfl⟩
theorem ok133:FnOk Try.prog c F (133,50,r133):=⟨Try.f50,[],[],Try.func50,by kernel_rfl,by kernel_rfl,by kernel_rfl⟩
theorem ok134:FnOk Try.prog c F (134,51,r134):=⟨Try.f51,[],[[0,1,5],[0,1,2,4,5,6,3,7,8,9],[0,1,2,3,4,5,6,7,8,9],[],[]],Try.func51,by kernel_rfl,by kernel_rfl,by kernel_rfl⟩
theorem ok261:FnOk Try.prog c F (261,56,r261):=⟨Try.f56,[],[[0,1,5]],Try.func56,by kernel_rfl,by kernel_rfl,by kernel_rfl⟩
theorem ok232:FnOk Try.prog c F (232,57,r232):=⟨Try.f57,[],[[0,1,5]],Try.func57,by kernel_rfl,by kernel_rfl,by kernel_rfl⟩
theorem ok231:FnOk Try.prog c F (231,58,r231):=⟨Try.f58,[],[],Try.func58,by kernel_rfl,by kernel_rfl,by kernel_rfl⟩
theorem ok228:FnOk Try.prog c F (228,54,r228):=⟨Try.f54,[],[[1,2,3,4]],Try.func54,by kernel_rfl,by kernel_rfl,by kernel_rfl⟩
theorem ok210:FnOk Try.prog c F (210,52,r210):=⟨Try.f52,[],[[1,2,3,7]],Try.func52,by kernel_rfl,by kernel_rfl,by kernel_rfl⟩
theorem ok316:FnOk Try.prog c F (316,61,r316):=⟨Try.f61,[],[],Try.func61,by kernel_rfl,by kernel_rfl,by kernel_rfl⟩
theorem ok318:FnOk Try.prog c F (318,62,r318):=⟨Try.f62,[],[[1,4,5,6]],Try.func62,by kernel_rfl,by kernel_rfl,by kernel_rfl⟩
theorem ok204:FnOk Try.prog c F (204,63,r204):=⟨Try.f63,[],[[1,3],[0,1,2,3,4,5,6,7,8,9,10,11,12,13,14,15,16,17,18,19,20,23,24,21,22,25,26,27,28,29,30,31],[0,1,2,3,4,5,6,7,8,9,10,11,12,13,14,15,16,17,18,19,20,21,22,23,24,25,26,27,28,29,30,31],[],[],[1,5]],Try.func63,by kernel_rfl,by kernel_rfl,by kernel_rfl⟩
theorem ok156:FnOk Try.prog c F (156,53,r156):=⟨Try.f53,[],[[1,3],[0,1,2,3,4,5,6,7,8,9,10,11,12,13,16,17,14,15,18,19,20,21,22,23,24,25],[0,1,2,3,4,5,6,7,8,9,10,11,12,13,14,15,16,17,18,19,20,21,22,23,24,25],[],[]],Try.func53,by kernel_rfl,by kernel_rfl,by kernel_rfl⟩
theorem ok320:FnOk Try.prog c F (320,64,r320):=⟨Try.f64,[],[[2,3,12,13,14],[0,1,2,3,4,5,6,7],[0,1,2,3,4,5,6,7],[],[]],Try.func64,by kernel_rfl,by kernel_rfl,by kernel_rfl⟩
theorem ok301:FnOk Try.prog c F (301,65,r301):=⟨Try.f65,[],[],Try.func65,by kernel_rfl,by kernel_rfl,by kernel_rfl⟩
theorem ok309:FnOk Try.prog c F (309,66,r309):=⟨Try.f66,[],[[2,4,6,8,9,42,43,44]],Try.func66,by kernel_rfl,by kernel_rfl,by kernel_rfl⟩
theorem ok298:FnOk Try.prog c F (298,67,r298):=⟨Try.f67,[],[],Try.func67,by kernel_rfl,by kernel_rfl,by kernel_rfl⟩
theorem ok234:FnOk Try.prog c F (234,60,r234):=⟨Try.f60,[],[[0,1,5]],Try.func60,by kernel_rfl,by kernel_rfl,by kernel_rfl⟩
theorem ok262:FnOk Try.prog c F (262,68,r262):=⟨Try.f68,[],[[0,1,5]],Try.func68,by kernel_rfl,by kernel_rfl,by kernel_rfl⟩
theorem ok136:FnOk Try.prog c F (136,69,r136):=⟨Try.f69,[],[],Try.func69,by kernel_rfl,by kernel_rfl,by kernel_rfl⟩
theorem ok137:FnOk Try.prog c F (137,70,r137):=⟨Try.f70,[],[[0,3,4]],Try.func70,by kernel_rfl,by kernel_rfl,by kernel_rfl⟩
theorem ok138:FnOk Try.prog c F (138,71,r138):=⟨Try.f71,[],[],Try.func71,by kernel_rfl,by kernel_rfl,by kernel_rfl⟩
theorem ok139:FnOk Try.prog c F (139,73,r139):=⟨Try.f73,[],[[0,1,5],[0,1,2,4,5,6,3,7,8,9],[0,1,2,3,4,5,6,7,8,9],[],[]],Try.func73,by kernel_rfl,by kernel_rfl,by kernel_rfl⟩
theorem ok140:FnOk Try.prog c F (140,74,r140):=⟨Try.f74,[],[],Try.func74,by kernel_rfl,by kernel_rfl,by kernel_rfl⟩
theorem ok259:FnOk Try.prog c F (259,75,r259):=⟨Try.f75,[],[[1,2,3,4],[4,0,1,2,3,5,6,7,8,9,10],[0,1,2,3,4,5,6,7,8,9,10],[],[]],Try.func75,by kernel_rfl,by kernel_rfl,by kernel_rfl⟩
theorem ok5:FnOk Try.prog c F (5,45,r5):=⟨Try.f45,[],[],Try.func45,by kernel_rfl,by kernel_rfl,by kernel_rfl⟩
theorem ok241:FnOk Try.prog c F (241,79,r241):=⟨Try.f79,[],[[1,3],[0,1,2,5,6,3,4,7,8,9,10,11,12,13,14,15,16,17,18,19,20,21,22,23,24,25,26,27,28,29,30,31,32,33],[0,1,2,3,4,5,6,7,8,9,10,11,12,13,14,15,16,17,18,19,20,21,22,23,24,25,26,27,28,29,30,31,32,33],[],[]],Try.func79,by kernel_rfl,by kernel_rfl,by kernel_rfl⟩
theorem ok242:FnOk Try.prog c F (242,80,r242):=⟨Try.f80,[],[],Try.func80,by kernel_rfl,by kernel_rfl,by kernel_rfl⟩
theorem ok243:FnOk Try.prog c F (243,81,r243):=⟨Try.f81,[],[[0,3,5],[0,1,2,3,4,5],[0,1,2,3,4,5],[],[]],Try.func81,by kernel_rfl,by kernel_rfl,by kernel_rfl⟩
theorem ok229:FnOk Try.prog c F (229,78,r229):=⟨Try.f78,[],[],Try.func78,by kernel_rfl,by kernel_rfl,by kernel_rfl⟩
theorem ok213:FnOk Try.prog c F (213,76,r213):=⟨Try.f76,[4,5],[],Try.func76,by kernel_rfl,by kernel_rfl,by kernel_rfl⟩
theorem ok319:FnOk Try.prog c F (319,82,r319):=⟨Try.f82,[],[],Try.func82,by kernel_rfl,by kernel_rfl,by kernel_rfl⟩
theorem ok321:FnOk Try.prog c F (321,83,r321):=⟨Try.f83,[],[[1,2,4,10,11]],Try.func83,by kernel_rfl,by kernel_rfl,by kernel_rfl⟩
theorem ok244:FnOk Try.prog c F (244,84,r244):=⟨Try.f84,[],[[1,46,47,48],[1,76,77,78],[0,1,2,3,4,5,6,7,8,9,10,11,12,13,14,15,16,17,18,19,20,23,24,21,22,25,26,27,28,29,30,31],[0,1,2,3,4,5,6,7,8,9,10,11,12,13,14,15,16,17,18,19,20,21,22,23,24,25,26,27,28,29,30,31],[],[]],Try.func84,by kernel_rfl,by kernel_rfl,by kernel_rfl⟩
theorem ok206:FnOk Try.prog c F (206,77,r206):=⟨Try.f77,[],[[1,26,27,28],[0,1,2,3,4,5,6,7,8,9,10,11,12,13,16,17,14,15,18,19,20,21,22,23,24,25],[0,1,2,3,4,5,6,7,8,9,10,11,12,13,14,15,16,17,18,19,20,21,22,23,24,25],[],[]],Try.func77,by kernel_rfl,by kernel_rfl,by kernel_rfl⟩
theorem ok141:FnOk Try.prog c F (141,87,r141):=⟨Try.f87,[],[],Try.func87,by kernel_rfl,by kernel_rfl,by kernel_rfl⟩
theorem ok142:FnOk Try.prog c F (142,88,r142):=⟨Try.f88,[],[],Try.func88,by kernel_rfl,by kernel_rfl,by kernel_rfl⟩
theorem ok260:FnOk Try.prog c F (260,91,r260):=⟨Try.f91,[],[],Try.func91,by kernel_rfl,by kernel_rfl,by kernel_rfl⟩
theorem ok248:FnOk Try.prog c F (248,89,r248):=⟨Try.f89,[],[[0,1,7,8]],Try.func89,by kernel_rfl,by kernel_rfl,by kernel_rfl⟩
theorem ok249:FnOk Try.prog c F (249,90,r249):=⟨Try.f90,[],[],Try.func90,by kernel_rfl,by kernel_rfl,by kernel_rfl⟩
theorem ok265:FnOk Try.prog c F (265,92,r265):=⟨Try.f92,[],[[1,10,11,12],[0,1,2,3,4,5,6,7,8,9,10,11,12,13,14,15,16,17,18,19,20,21,22,23,24,25,26,27,30,31,28,29,32,33,34,35,36,37,38,39],[0,1,2,3,4,5,6,7,8,9,10,11,12,13,14,15,16,17,18,19,20,21,22,23,24,25,26,27,28,29,30,31,32,33,34,35,36,37,38,39],[],[]],Try.func92,by kernel_rfl,by kernel_rfl,by kernel_rfl⟩
theorem ok266:FnOk Try.prog c F (266,93,r266):=⟨Try.f93,[],[],Try.func93,by kernel_rfl,by kernel_rfl,by kernel_rfl⟩
theorem ok267:FnOk Try.prog c F (267,94,r267):=⟨Try.f94,[],[[0,1,2,3,5,6,7,8,4,9,10,11,12],[0,1,2,3,4,5,6,7,8,9,10,11,12],[],[]],Try.func94,by kernel_rfl,by kernel_rfl,by kernel_rfl⟩
theorem ok7:FnOk Try.prog c F (7,72,r7):=⟨Try.f72,[],[],Try.func72,by kernel_rfl,by kernel_rfl,by kernel_rfl⟩
theorem ok272:FnOk Try.prog c F (272,98,r272):=⟨Try.f98,[],[[0,3,7,8],[1,2,3,0,4,5],[0,1,2,3,4,5],[],[]],Try.func98,by kernel_rfl,by kernel_rfl,by kernel_rfl⟩
theorem ok275:FnOk Try.prog c F (275,99,r275):=⟨Try.f99,[],[[3,6,7,8]],Try.func99,by kernel_rfl,by kernel_rfl,by kernel_rfl⟩
theorem ok273:FnOk Try.prog c F (273,100,r273):=⟨Try.f100,[],[],Try.func100,by kernel_rfl,by kernel_rfl,by kernel_rfl⟩
theorem ok274:FnOk Try.prog c F (274,101,r274):=⟨Try.f101,[],[],Try.func101,by kernel_rfl,by kernel_rfl,by kernel_rfl⟩
theorem ok276:FnOk Try.prog c F (276,103,r276):=⟨Try.f103,[],[],Try.func103,by kernel_rfl,by kernel_rfl,by kernel_rfl⟩
theorem ok277:FnOk Try.prog c F (277,104,r277):=⟨Try.f104,[],[],Try.func104,by kernel_rfl,by kernel_rfl,by kernel_rfl⟩
theorem okT:(c.T.all fun x=>x.2.okB Try.prog (mkCfgZ Try.prog tab ptab tags).ET (mkCfgZ Try.prog tab ptab tags).SZ x.1)=true:=by kernel_rfl
theorem okF:(c.F.all fun x=>decide ((mkCfgZ Try.prog tab ptab tags).G x.2=some x.1))=true:=by kernel_rfl
theorem okTab:AllT (FnOk Try.prog c F) tab:=⟨ok313,ok82,ok83,ok87,ok154,ok155,ok158,ok191,ok305,ok314,ok315,ok292,ok111,ok112,ok114,ok203,ok205,ok207,ok230,ok192,ok317,ok300,ok308,ok297,ok334,ok322,ok128,ok129,ok130,ok131,ok133,ok134,ok261,ok232,ok231,ok228,ok210,ok316,ok318,ok204,ok156,ok320,ok301,ok309,ok298,ok234,ok262,ok136,ok137,ok138,ok139,ok140,ok259,ok5,ok241,ok242,ok243,ok229,ok213,ok319,ok321,ok244,ok206,ok141,ok142,ok260,ok248,ok249,ok265,ok266,ok267,ok7,ok272,ok275,ok273,ok274,ok276,ok277,trivial⟩
theorem okP:AllT (PFn Try.prog F) ptab:=⟨⟨⟨Try.f85,Try.func85,by kernel_rfl,by kernel_rfl⟩,rfl,step_ins _ _⟩,⟨⟨Try.f86,Try.func86,by kernel_rfl,by kernel_rfl⟩,rfl,step_del _⟩,trivial⟩
theorem prog (O:Nat):ProgOk ((mkCfgZ Try.prog tab ptab tags).at O) c F (primZ ptab):=
 mkProgZ okT okF okTab okP ⟨⟨Try.f97,Try.func97,by kernel_rfl,by kernel_rfl,by kernel_rfl,by kernel_rfl⟩,trivial⟩ ⟨⟨by kernel_rfl,by kernel_rfl,by kernel_rfl⟩,trivial⟩ O ⟨ins_ok (ρ:=renI 85 95 96 3 4 43 56) (k:=6) rfl rfl p332,del_ok (ρ:=renD 86 3 4 43 56) (k:=6) rfl rfl p330,trivial⟩
theorem pr332:PrimAt F (primZ ptab) 332 (insF 16 80):=primAt (ptab:=ptab) (n:=332) (x:=(85,(insF 16 80))) rfl rfl
theorem pr330:PrimAt F (primZ ptab) 330 (delF 16):=primAt (ptab:=ptab) (n:=330) (x:=(86,(delF 16))) rfl rfl
end Go.Proofs.Yteagcdhkobeanaa.A.ExactHandTake
namespace Go.Proofs.Yteagcdhkobeanaa.A
open Go
set_option linter.unusedSimpArgs false
set_option linter.unusedVariables false
set_option maxHeartbeats 2000000 in
theorem law_ExactHandTake {F:Nat→Option RF} {Z:CallF} (hI10:Has F tI10) (hI11:Has F tI11) (hI13:Has F tI13) (hI15:Has F tI15) (hLAccount:Has F tLAccount) (hLBook:Has F tLBook) (hLFin:Has F tLFin) (hLHandMsg:Has F tLHandMsg) (hLShard:Has F tLShard) (hLStore:Has F tLStore) (hLibcmpCompareint:Has F tLibcmpCompareint) (hLibcmpCompareuint64:Has F tLibcmpCompareuint64) (hLibcmpOrint:Has F tLibcmpOrint) (hLibcmpisNaNint:Has F tLibcmpisNaNint) (hLibcmpisNaNuint64:Has F tLibcmpisNaNuint64) (hLibslicesContainsimplFinimplFin:Has F tLibslicesContainsimplFinimplFin) (hLibslicesIndexFuncimplShardimplShard:Has F tLibslicesIndexFuncimplShardimplShard) (hLibslicesIndeximplFinimplFin:Has F tLibslicesIndeximplFinimplFin) (hS01d:Has F tS01d) (hS10:Has F tS10) (hS13:Has F tS13) (hS15:Has F tS15) (hWHandTake:Has F tWHandTake) (pr330:PrimAt F Z 330 (delF 16)) (pr332:PrimAt F Z 332 (insF 16 80)) (h:Heap) (avs:List V) (hfl:h.floor=h.next) (w:ArgsWf h 8 [shStore,shHandMsg] avs): ∃h',call F Z 313 avs h=some (.c (.bool true),h'):=by
 obtain ⟨sc,_,rfl,sw,w1⟩:=ArgsWf.struct w
 obtain ⟨s,sp,sv,sok⟩:=Wf.isStore sw
 obtain ⟨sl1,sl2,sl3⟩:=Store.lenL sv
 obtain ⟨mc,_,rfl,mw,w2⟩:=ArgsWf.struct w1
 obtain ⟨m,mp,mv,mok⟩:=Wf.isHandMsg mw
 obtain ⟨ml1,ml2,ml3⟩:=HandMsg.lenL mv
 obtain rfl:=w2.nil
 have f0:h.floor≤h.next:=by omega
 rw[call_run F Z (hWHandTake.lk (g:=313) rfl) _ _ rfl]
 obtain ⟨l0,s0,s0l,s0k⟩:=szStore_c hLStore hLShard hLBook hLAccount hLFin (Z:=Z) sv 1048576 (by omega) (by omega)
 simp only[rn,RO.dst,lk,drop,Nat.reduceBEq,Nat.reduceAdd,Nat.reduceLeDiff,↓reduceIte,reduceCtorEq,s0,sl1,sl2,sl3,ml1,ml2,ml3]
 by_cases hn0:l0<0
 ·simp only[rn,RO.dst,lk,drop,Nat.reduceBEq,Nat.reduceAdd,Nat.reduceLeDiff,↓reduceIte,reduceCtorEq,hn0]
  exact ⟨_,rfl⟩
 have sm0:=s0k (by omega)
 obtain ⟨l1,s1,s1l,s1k⟩:=szHandMsg_c hLHandMsg hLShard hLBook hLAccount hLFin (Z:=Z) mv l0 (by omega) (by omega)
 simp only[rn,RO.dst,lk,drop,Nat.reduceBEq,Nat.reduceAdd,Nat.reduceLeDiff,↓reduceIte,reduceCtorEq,s1,hn0,sl1,sl2,sl3,ml1,ml2,ml3]
 by_cases hn1:l1<0
 ·simp only[rn,RO.dst,lk,drop,Nat.reduceBEq,Nat.reduceAdd,Nat.reduceLeDiff,↓reduceIte,reduceCtorEq,hn1]
  exact ⟨_,rfl⟩
 have sm1:=s1k (by omega)
 have flr:h.floor=h.next:=hfl
 have Tsv:=Store.okL.lt sv
 have Tmv:=HandMsg.okL.lt mv
 obtain ⟨y1,hq1,p1,e1,oq1,vq1,qq1⟩:=toStore_c hLStore hLShard hLBook hLAccount hLFin (Z:=Z) (h:=⟨h.next,h.next,h.get⟩) (Nat.le_refl _) (Store.okL.up sv _) sm0
 obtain ⟨h1,mq1⟩: ∃g,Heap.mk hq1.next h.floor hq1.get=g:=⟨_,rfl⟩
 have o1:On h h1:=by rw[←mq1];exact ⟨⟨oq1.ext.1,oq1.ext.2⟩,rfl⟩
 have v1:=Store.okI.up vq1 h.floor
 rw[mq1] at v1
 have q1:Fre h p1:=⟨qq1.lo,qq1.nd⟩
 replace sv:=Store.okL.on sv o1
 replace mv:=HandMsg.okL.on mv o1
 have n1:=o1.ext.1
 have g1:=o1.fl
 have f1:=o1.le f0
 obtain ⟨vl1,vt1,vd1⟩:=Store.lenI v1
 obtain ⟨y2,hq2,p2,e2,oq2,vq2,qq2⟩:=toHandMsg_c hLHandMsg hLShard hLBook hLAccount hLFin (Z:=Z) (h:=⟨h1.next,h1.next,h1.get⟩) (Nat.le_refl _) (HandMsg.okL.up mv _) sm1
 obtain ⟨h2,mq2⟩: ∃g,Heap.mk hq2.next h1.floor hq2.get=g:=⟨_,rfl⟩
 have o2:On h1 h2:=by rw[←mq2];exact ⟨⟨oq2.ext.1,oq2.ext.2⟩,rfl⟩
 have v2:=HandMsg.okI.up vq2 h1.floor
 rw[mq2] at v2
 have q2:Fre h1 p2:=⟨qq2.lo,qq2.nd⟩
 replace sv:=Store.okL.on sv o2
 replace mv:=HandMsg.okL.on mv o2
 replace v1:=Store.okI.on v1 o2
 have n2:=o2.ext.1
 have g2:=o2.fl
 have f2:=o2.le f1
 obtain ⟨vl2,vt2,vd2⟩:=HandMsg.lenI v2
 obtain ⟨r3_0,hq3,p3_0,e3,oq3,vq3_0,qq3_0⟩:=sHandTake_c ⟨hS01d,hS10,hS13⟩ hS15 (Z:=Z) (h:=⟨h2.next,h2.next,h2.get⟩) (Nat.le_refl _) (Store.okI.up v1 _) (HandMsg.okI.up v2 _) sok sm0 mok sm1
 obtain ⟨h3,mq3⟩: ∃g,Heap.mk hq3.next h2.floor hq3.get=g:=⟨_,rfl⟩
 have o3:On h2 h3:=by rw[←mq3];exact ⟨⟨oq3.ext.1,oq3.ext.2⟩,rfl⟩
 have v3_0:=Store.okI.up vq3_0 h2.floor
 rw[mq3] at v3_0
 have q3_0:Fre h2 p3_0:=⟨qq3_0.lo,qq3_0.nd⟩
 replace sv:=Store.okL.on sv o3
 replace mv:=HandMsg.okL.on mv o3
 replace v1:=Store.okI.on v1 o3
 replace v2:=HandMsg.okI.on v2 o3
 have n3:=o3.ext.1
 have g3:=o3.fl
 have f3:=o3.le f2
 have Tv3_0:=Store.okI.lt v3_0
 obtain ⟨vl3_0,vt3_0,vd3_0⟩:=Store.lenI v3_0
 obtain ⟨y4,h4,p4,e4,o4,v4,q4⟩:=toStore_c hLStore hLShard hLBook hLAccount hLFin (Z:=Z) f3 sv sm0
 replace sv:=Store.okL.on sv o4
 replace mv:=HandMsg.okL.on mv o4
 replace v1:=Store.okI.on v1 o4
 replace v2:=HandMsg.okI.on v2 o4
 replace v3_0:=Store.okI.on v3_0 o4
 have n4:=o4.ext.1
 have g4:=o4.fl
 have f4:=o4.le f3
 have Tv4:=Store.okI.lt v4
 obtain ⟨vl4,vt4,vd4⟩:=Store.lenI v4
 obtain ⟨y5,h5,p5,e5,o5,v5,q5⟩:=toHandMsg_c hLHandMsg hLShard hLBook hLAccount hLFin (Z:=Z) f4 mv sm1
 replace sv:=Store.okL.on sv o5
 replace mv:=HandMsg.okL.on mv o5
 replace v1:=Store.okI.on v1 o5
 replace v2:=HandMsg.okI.on v2 o5
 replace v3_0:=Store.okI.on v3_0 o5
 replace v4:=Store.okI.on v4 o5
 have n5:=o5.ext.1
 have g5:=o5.fl
 have f5:=o5.le f4
 have Tv5:=HandMsg.okI.lt v5
 obtain ⟨vl5,vt5,vd5⟩:=HandMsg.lenI v5
 obtain ⟨r6_0,h6,p6_0,e6,o6,v6_0,q6_0⟩:=HandTake_c ⟨hI10,hI11,hI13,hLibcmpCompareint,hLibcmpCompareuint64,hLibcmpOrint,hLibcmpisNaNint,hLibcmpisNaNuint64,hLibslicesIndeximplFinimplFin,hLibslicesContainsimplFinimplFin⟩ hI15 hLibslicesIndexFuncimplShardimplShard pr330 pr332 (Z:=Z) f5 v4 v5 sok sm0 mok sm1
 replace sv:=Store.okL.on sv o6
 replace mv:=HandMsg.okL.on mv o6
 replace v1:=Store.okI.on v1 o6
 replace v2:=HandMsg.okI.on v2 o6
 replace v3_0:=Store.okI.on v3_0 o6
 replace v4:=Store.okI.on v4 o6
 replace v5:=HandMsg.okI.on v5 o6
 have n6:=o6.ext.1
 have g6:=o6.fl
 have f6:=o6.le f5
 obtain ⟨vl6_0,vt6_0,vd6_0⟩:=Store.lenI v6_0
 have c1:=eqStore_r hLStore hLShard hLBook hLAccount hLFin (Z:=Z) v6_0 v3_0
 obtain ⟨y7,hq7,p7,e7,oq7,vq7,qq7⟩:=toStore_c hLStore hLShard hLBook hLAccount hLFin (Z:=Z) (h:=⟨h6.next,h6.next,h6.get⟩) (Nat.le_refl _) (Store.okL.up sv _) sm0
 obtain ⟨h7,mq7⟩: ∃g,Heap.mk hq7.next h6.floor hq7.get=g:=⟨_,rfl⟩
 have o7:On h6 h7:=by rw[←mq7];exact ⟨⟨oq7.ext.1,oq7.ext.2⟩,rfl⟩
 have v7:=Store.okI.up vq7 h6.floor
 rw[mq7] at v7
 have q7:Fre h6 p7:=⟨qq7.lo,qq7.nd⟩
 replace sv:=Store.okL.on sv o7
 replace mv:=HandMsg.okL.on mv o7
 replace v1:=Store.okI.on v1 o7
 replace v2:=HandMsg.okI.on v2 o7
 replace v3_0:=Store.okI.on v3_0 o7
 replace v4:=Store.okI.on v4 o7
 replace v5:=HandMsg.okI.on v5 o7
 replace v6_0:=Store.okI.on v6_0 o7
 have n7:=o7.ext.1
 have g7:=o7.fl
 have f7:=o7.le f6
 obtain ⟨vl7,vt7,vd7⟩:=Store.lenI v7
 have c2:=eqStore_r hLStore hLShard hLBook hLAccount hLFin (Z:=Z) (h:=⟨h7.next,h7.next,h7.get⟩) (Store.okI.up v4 _) (Store.okI.up v7 _)
 obtain ⟨y8,hq8,p8,e8,oq8,vq8,qq8⟩:=toHandMsg_c hLHandMsg hLShard hLBook hLAccount hLFin (Z:=Z) (h:=⟨h7.next,h7.next,h7.get⟩) (Nat.le_refl _) (HandMsg.okL.up mv _) sm1
 obtain ⟨h8,mq8⟩: ∃g,Heap.mk hq8.next h7.floor hq8.get=g:=⟨_,rfl⟩
 have o8:On h7 h8:=by rw[←mq8];exact ⟨⟨oq8.ext.1,oq8.ext.2⟩,rfl⟩
 have v8:=HandMsg.okI.up vq8 h7.floor
 rw[mq8] at v8
 have q8:Fre h7 p8:=⟨qq8.lo,qq8.nd⟩
 replace sv:=Store.okL.on sv o8
 replace mv:=HandMsg.okL.on mv o8
 replace v1:=Store.okI.on v1 o8
 replace v2:=HandMsg.okI.on v2 o8
 replace v3_0:=Store.okI.on v3_0 o8
 replace v4:=Store.okI.on v4 o8
 replace v5:=HandMsg.okI.on v5 o8
 replace v6_0:=Store.okI.on v6_0 o8
 have n8:=o8.ext.1
 have g8:=o8.fl
 have f8:=o8.le f7
 obtain ⟨vl8,vt8,vd8⟩:=HandMsg.lenI v8
 have c3:=eqHandMsg_r hLHandMsg hLShard hLBook hLAccount hLFin (Z:=Z) (h:=⟨h8.next,h8.next,h8.get⟩) (HandMsg.okI.up v5 _) (HandMsg.okI.up v8 _)
 have hb1:=Store.wt_le sm0
 have hb2:=s.wt_nn
 have hb5:=HandMsg.wt_le sm1
 have hb6:=m.wt_nn
 have hb3:=Store.wt_le (handTake_small sm0 sm1)
 have hb4:=(handTake s m).1.wt_nn
 have lo9: ∀id,id∈p4→h8.floor≤id:=fun id hid=>by have:=q4.lo id hid;omega
 obtain ⟨h9,m9,k9,u9⟩:=markStore_r hLStore hLShard hLBook hLAccount hLFin (Z:=Z) v4 q4.nd lo9 (1) (by omega) (by omega)
 replace sv:=Store.okL.mk' sv k9 fun id h1 h2=>by have a1:=q4.lo id h2;have a2:=Tsv id h1;omega
 replace mv:=HandMsg.okL.mk' mv k9 fun id h1 h2=>by have a1:=q4.lo id h2;have a2:=Tmv id h1;omega
 replace v3_0:=Store.okI.mk' v3_0 k9 fun id h1 h2=>by have a1:=q4.lo id h2;have a2:=Tv3_0 id h1;omega
 replace v5:=HandMsg.okI.mk' v5 k9 fun id h1 h2=>by have a1:=q4.lo id h2;have a2:=Tv4 id h2;have a3:=q5.lo id h1;omega
 replace v6_0:=Store.okI.mk' v6_0 k9 fun id h1 h2=>by have a1:=q4.lo id h2;have a2:=Tv4 id h2;have a3:=q6_0.lo id h1;omega
 have n9:=k9.next
 have g9:=k9.fl
 have f9:h9.floor≤h9.next:=by omega
 replace v4:=u9
 have hk9: ¬(1+s.wt:Int)<0:=by omega
 have lo10: ∀id,id∈p5→h9.floor≤id:=fun id hid=>by have:=q5.lo id hid;omega
 obtain ⟨h10,m10,k10,u10⟩:=markHandMsg_r hLHandMsg hLShard hLBook hLAccount hLFin (Z:=Z) v5 q5.nd lo10 (1+s.wt) (by omega) (by omega)
 replace sv:=Store.okL.mk' sv k10 fun id h1 h2=>by have a1:=q5.lo id h2;have a2:=Tsv id h1;omega
 replace mv:=HandMsg.okL.mk' mv k10 fun id h1 h2=>by have a1:=q5.lo id h2;have a2:=Tmv id h1;omega
 replace v3_0:=Store.okI.mk' v3_0 k10 fun id h1 h2=>by have a1:=q5.lo id h2;have a2:=Tv3_0 id h1;omega
 replace v6_0:=Store.okI.mk' v6_0 k10 fun id h1 h2=>by have a1:=q5.lo id h2;have a2:=Tv5 id h2;have a3:=q6_0.lo id h1;omega
 have n10:=k10.next
 have g10:=k10.fl
 have f10:h10.floor≤h10.next:=by omega
 replace v5:=u10
 have hk10: ¬(1+s.wt+m.wt:Int)<0:=by omega
 have c4:=eqStore_r hLStore hLShard hLBook hLAccount hLFin (Z:=Z) v6_0 v3_0
 have lo11: ∀id,id∈p6_0→h10.floor≤id:=fun id hid=>by have:=q6_0.lo id hid;omega
 obtain ⟨h11,m11,k11,u11⟩:=markStore_r hLStore hLShard hLBook hLAccount hLFin (Z:=Z) v6_0 q6_0.nd lo11 (1) (by omega) (by omega)
 replace sv:=Store.okL.mk' sv k11 fun id h1 h2=>by have a1:=q6_0.lo id h2;have a2:=Tsv id h1;omega
 replace mv:=HandMsg.okL.mk' mv k11 fun id h1 h2=>by have a1:=q6_0.lo id h2;have a2:=Tmv id h1;omega
 replace v3_0:=Store.okI.mk' v3_0 k11 fun id h1 h2=>by have a1:=q6_0.lo id h2;have a2:=Tv3_0 id h1;omega
 have n11:=k11.next
 have g11:=k11.fl
 have f11:h11.floor≤h11.next:=by omega
 replace v6_0:=u11
 have hkk: ¬(1+((handTake s m).1).wt:Int)<0:=by omega
 have d5:=heldStore_r hLStore hLShard hLBook hLAccount hLFin (Z:=Z) v6_0 (by omega) (by omega)
 have hh6: ¬(1+((handTake s m).1).wt:Int)<0:=by omega
 obtain ⟨y12,hq12,p12,e12,oq12,vq12,qq12⟩:=toStore_c hLStore hLShard hLBook hLAccount hLFin (Z:=Z) (h:=⟨h11.next,h11.next,h11.get⟩) (Nat.le_refl _) (Store.okL.up sv _) sm0
 obtain ⟨h12,mq12⟩: ∃g,Heap.mk hq12.next h11.floor hq12.get=g:=⟨_,rfl⟩
 have o12:On h11 h12:=by rw[←mq12];exact ⟨⟨oq12.ext.1,oq12.ext.2⟩,rfl⟩
 have v12:=Store.okI.up vq12 h11.floor
 rw[mq12] at v12
 have q12:Fre h11 p12:=⟨qq12.lo,qq12.nd⟩
 replace sv:=Store.okL.on sv o12
 replace mv:=HandMsg.okL.on mv o12
 replace v3_0:=Store.okI.on v3_0 o12
 replace v6_0:=Store.okI.on v6_0 o12
 have n12:=o12.ext.1
 have g12:=o12.fl
 have f12:=o12.le f11
 obtain ⟨vl12,vt12,vd12⟩:=Store.lenI v12
 obtain ⟨y13,hq13,p13,e13,oq13,vq13,qq13⟩:=toHandMsg_c hLHandMsg hLShard hLBook hLAccount hLFin (Z:=Z) (h:=⟨h12.next,h12.next,h12.get⟩) (Nat.le_refl _) (HandMsg.okL.up mv _) sm1
 obtain ⟨h13,mq13⟩: ∃g,Heap.mk hq13.next h12.floor hq13.get=g:=⟨_,rfl⟩
 have o13:On h12 h13:=by rw[←mq13];exact ⟨⟨oq13.ext.1,oq13.ext.2⟩,rfl⟩
 have v13:=HandMsg.okI.up vq13 h12.floor
 rw[mq13] at v13
 have q13:Fre h12 p13:=⟨qq13.lo,qq13.nd⟩
 replace sv:=Store.okL.on sv o13
 replace mv:=HandMsg.okL.on mv o13
 replace v3_0:=Store.okI.on v3_0 o13
 replace v6_0:=Store.okI.on v6_0 o13
 replace v12:=Store.okI.on v12 o13
 have n13:=o13.ext.1
 have g13:=o13.fl
 have f13:=o13.le f12
 obtain ⟨vl13,vt13,vd13⟩:=HandMsg.lenI v13
 obtain ⟨r14_0,hq14,p14_0,e14,oq14,vq14_0,qq14_0⟩:=HandTake_c ⟨hI10,hI11,hI13,hLibcmpCompareint,hLibcmpCompareuint64,hLibcmpOrint,hLibcmpisNaNint,hLibcmpisNaNuint64,hLibslicesIndeximplFinimplFin,hLibslicesContainsimplFinimplFin⟩ hI15 hLibslicesIndexFuncimplShardimplShard pr330 pr332 (Z:=Z) (h:=⟨h13.next,h13.next,h13.get⟩) (Nat.le_refl _) (Store.okI.up v12 _) (HandMsg.okI.up v13 _) sok sm0 mok sm1
 obtain ⟨h14,mq14⟩: ∃g,Heap.mk hq14.next h13.floor hq14.get=g:=⟨_,rfl⟩
 have o14:On h13 h14:=by rw[←mq14];exact ⟨⟨oq14.ext.1,oq14.ext.2⟩,rfl⟩
 have v14_0:=Store.okI.up vq14_0 h13.floor
 rw[mq14] at v14_0
 have q14_0:Fre h13 p14_0:=⟨qq14_0.lo,qq14_0.nd⟩
 replace sv:=Store.okL.on sv o14
 replace mv:=HandMsg.okL.on mv o14
 replace v3_0:=Store.okI.on v3_0 o14
 replace v6_0:=Store.okI.on v6_0 o14
 replace v12:=Store.okI.on v12 o14
 replace v13:=HandMsg.okI.on v13 o14
 have n14:=o14.ext.1
 have g14:=o14.fl
 have f14:=o14.le f13
 obtain ⟨vl14_0,vt14_0,vd14_0⟩:=Store.lenI v14_0
 have c7:=eqStore_r hLStore hLShard hLBook hLAccount hLFin (Z:=Z) v14_0 v3_0
 have d8:=heldStore_r hLStore hLShard hLBook hLAccount hLFin (Z:=Z) v6_0 (by omega) (by omega)
 have hh9: ¬(1+((handTake s m).1).wt:Int)<0:=by omega
 simp only[rn,RO.dst,lk,drop,Nat.reduceBEq,Nat.reduceAdd,Nat.reduceLeDiff,↓reduceIte,reduceCtorEq,hn0,hn1,sl1,sl2,sl3,ml1,ml2,ml3,mq1,e1,vl1,vt1,vd1,mq2,e2,vl2,vt2,vd2,mq3,e3,vl3_0,vt3_0,vd3_0,e4,vl4,vt4,vd4,e5,vl5,vt5,vd5,e6,vl6_0,vt6_0,vd6_0,c1,mq7,e7,vl7,vt7,vd7,c2,mq8,e8,vl8,vt8,vd8,c3,m9,hk9,m10,hk10,c4,m11,hkk,d5,hh6,mq12,e12,vl12,vt12,vd12,mq13,e13,vl13,vt13,vd13,mq14,e14,vl14_0,vt14_0,vd14_0,c7,d8,hh9]
 exact ⟨_,rfl⟩
end Go.Proofs.Yteagcdhkobeanaa.A
namespace Go.Proofs.Yteagcdhkobeanaa.A.ExactHandTake
open Go Go.ChangeShapes Go.WideShapes Go.ChangeAt Go.RowKit
theorem own:ownKnob Try.prog.godebug=none:=by kernel_rfl
set_option maxRecDepth 100000 in
theorem lifted (os:Os) (started:os.Started) (H:Type) (enc:TypeId×Value→H):
 ReturnsInHanded {} Try.checked os 5 .any (Rows.fnExactHandTakeSpec.pre6 enc Try.prog Try.f5 Rows.fnExactHandTakeRow.domain false) (Rows.fnExactHandTakeSpec.post enc Try.prog Try.f5 false true false false):=by
 refine returnsInHanded_of_change_sized (C:=Try.checked) own started (by kernel_rfl) Try.func5
  (ChangeSpec.witness6 (enc:=enc) (C:=Try.checked) false ⟨#[],#[.agg #[.int .i64 0,.int .i64 0,.slice none 0 0],.agg #[.int .i64 0,.int .u64 0,.int .i64 0,.int .i64 0,.int .u64 0,.int .u64 0,.int .i64 0,.int .i64 0,.slice none 0 0,.slice none 0 0]],[]⟩ 8 (by kernel_rfl) (by kernel_rfl) (by kernel_rfl) (by kernel_rfl)) ?_
 intro W base args ds gs before hval hW _ _ _
 have hW':=hW
 obtain ⟨p,q,hA,hV,rfl,hfz,hnd⟩:=hW
 obtain ⟨rfl,rfl⟩:=trodVars_none hV
 have r0:DataW.TrodAll enc Try.prog W 0 (fun _=>true) true [52,32] args.toList ds p:=hA
 obtain ⟨_,_,d0,_,_,_,_,rfl,_,_,r1⟩:=trodAll_cons r0
 obtain ⟨_,_,d1,_,_,_,_,rfl,_,_,r2⟩:=trodAll_cons r1
 obtain ⟨_,rfl,_⟩:=trodAll_nil r2
 refine (law_calls (ts:=[52,32]) (ss:=[shStore,shHandMsg]) prog (show (mkCfgZ Try.prog tab ptab tags).G 313=some 5 from by kernel_rfl) ⟨show shIs Try.prog (mkCfgZ Try.prog tab ptab tags).ET (mkCfgZ Try.prog tab ptab tags).SZ 8 52 shStore=true from by kernel_rfl,show shIs Try.prog (mkCfgZ Try.prog tab ptab tags).ET (mkCfgZ Try.prog tab ptab tags).SZ 8 32 shHandMsg=true from by kernel_rfl,trivial⟩ (law_ExactHandTake inI10 inI11 inI13 inI15 inLAccount inLBook inLFin inLHandMsg inLShard inLStore inLibcmpCompareint inLibcmpCompareuint64 inLibcmpOrint inLibcmpisNaNint inLibcmpisNaNuint64 inLibslicesContainsimplFinimplFin inLibslicesIndexFuncimplShardimplShard inLibslicesIndeximplFinimplFin inS01d inS10 inS13 inS15 inWHandTake pr330 pr332) (fun j t v h1=>hval j t v (by rw[Try.params5];exact (List.getElem?_toArray ..).trans h1)) hA).mono fun e W' ⟨he,bel⟩=> ?_
 subst he
 exact ⟨_,rfl,_,_,_,[],_,[],hW',trodAll_mk1 (shut_bool Try.underlying4 _),trodAll_below (by kernel_rfl) bel _ _ _ _ (by kernel_rfl) hA hA.lt,rfl,bel.frame _,fun h=>by cases h⟩
theorem over:Rows.fnExactHandTakeRow.holds Try.pinned (OpenSpec.ofChange Rows.fnExactHandTakeSpec):=
 OpenClaim.holds_of_wide 5 Try.f5 rfl rfl rfl rfl rfl rfl rfl ⟨rfl,rfl,rfl,rfl,rfl⟩ rfl rfl rfl rfl rfl (by kernel_rfl) Try.func5 (by kernel_rfl)
  (of_decide_eq_true (by kernel_rfl)) (by unfold Func.isWrapper;first | (rw[if_pos (by decide+kernel)];kernel_rfl) | (rw[if_neg (by decide+kernel)];exact ⟨rfl,rfl⟩))
  (fun os started H enc _=>lifted os started H enc)
end Go.Proofs.Yteagcdhkobeanaa.A.ExactHandTake
namespace Go.Proofs.Yteagcdhkobeanaa
/-- The row. -/
theorem fnExactHandTake_holds:Rows.FnExactHandTakeSaid:=A.ExactHandTake.over
#print axioms fnExactHandTake_holds
end Go.Proofs.Yteagcdhkobeanaa
