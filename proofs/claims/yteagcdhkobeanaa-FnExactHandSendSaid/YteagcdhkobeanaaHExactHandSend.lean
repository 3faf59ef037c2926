/- FnExactHandSend: the statement, from the law of the abstract run. No condition. -/
import Derived.Test.YteagcdhkobeanaaHCExactHandSend2
import Derived.Test.YteagcdhkobeanaaB6
import Derived.Test.YteagcdhkobeanaaProg
import Derived.Test.YteagcdhkobeanaaRows
import Derived.ProofKit
import Derived.OpenShut
import Derived.ShutString
import Derived.ChangeOld
import Derived.Below
import Derived.SizedLaws
namespace Go.Proofs.Yteagcdhkobeanaa.A.ExactHandSend
open Go
set_option maxRecDepth 100000
def c:CC where
 T:=[(3,⟨1,8,false,some [.int .i64 0],(.int .i64)⟩),
  (4,⟨1,1,false,some [.bool false],.bool⟩),
  (22,⟨1,8,false,some [.int .u64 0],(.int .u64)⟩),
  (24,⟨5,40,true,some [.int .u64 0,.int .i64 0,.int .i64 0,.int .i64 0,.int .i64 0],(.struct [(0,1,false),(1,1,false),(2,1,false),(3,1,false),(4,1,false)])⟩),
  (25,⟨1,24,false,some [.nil],(.slice 115 12)⟩),
  (27,⟨1,24,true,some [.nil],(.struct [(0,1,false)])⟩),
  (28,⟨1,24,false,some [.nil],(.slice 103 10)⟩),
  (30,⟨6,80,true,some [.int .u64 0,.int .u64 0,.int .i64 0,.int .i64 0,.nil,.nil],(.struct [(0,1,false),(1,1,false),(2,1,false),(3,1,false),(4,1,true),(5,1,false)])⟩),
  (34,⟨5,40,true,some [.int .u64 0,.int .i64 0,.int .i64 0,.int .i64 0,.int .i64 0],(.struct [(0,1,false),(1,1,false),(2,1,false),(3,1,false),(4,1,false)])⟩),
  (38,⟨1,24,false,some [.nil],(.slice 109 11)⟩),
  (40,⟨1,24,true,some [.nil],(.struct [(0,1,false)])⟩),
  (41,⟨1,24,false,some [.nil],(.slice 101 9)⟩),
  (43,⟨6,80,true,some [.int .u64 0,.int .u64 0,.int .i64 0,.int .i64 0,.nil,.nil],(.struct [(0,1,false),(1,1,false),(2,1,false),(3,1,false),(4,1,true),(5,1,false)])⟩),
  (45,⟨10,112,true,some [.int .i64 0,.int .u64 0,.int .i64 0,.int .i64 0,.int .u64 0,.int .u64 0,.int .i64 0,.int .i64 0,.nil,.nil],(.struct [(0,1,false),(1,1,false),(2,1,false),(3,1,false),(4,6,true)])⟩),
  (50,⟨1,24,false,some [.nil],(.slice 30 20)⟩),
  (52,⟨3,40,true,some [.int .i64 0,.int .i64 0,.nil],(.struct [(0,1,false),(1,1,false),(2,1,false)])⟩),
  (56,⟨1,24,false,some [.nil],(.slice 43 16)⟩),
  (58,⟨3,40,true,some [.int .i64 0,.int .i64 0,.nil],(.struct [(0,1,false),(1,1,false),(2,1,false)])⟩),
  (101,⟨2,16,true,some [.int .i64 0,.int .u64 0],(.struct [(0,1,false),(1,1,false)])⟩),
  (103,⟨2,16,true,some [.int .i64 0,.int .u64 0],(.struct [(0,1,false),(1,1,false)])⟩),
  (109,⟨5,40,true,some [.int .u64 0,.int .u64 0,.int .u64 0,.int .u64 0,.int .i64 0],(.struct [(0,1,false),(1,1,false),(2,1,false),(3,1,false),(4,1,false)])⟩),
  (115,⟨5,40,true,some [.int .u64 0,.int .u64 0,.int .u64 0,.int .u64 0,.int .i64 0],(.struct [(0,1,false),(1,1,false),(2,1,false),(3,1,false),(4,1,false)])⟩),
  (126,⟨1,24,false,some [.nil],(.slice 3 15)⟩)]
 F:=[(4,302),(8,2),(12,87),(13,154),(14,303),(15,155),(16,304),(17,158),(18,191),(19,305),(20,306),(24,111),(25,3),(26,112),(28,114),(29,203),(30,189),(31,205),(32,331),(33,207),(34,230),(35,192),(36,193),(43,128),(44,129),(45,5),(46,130),(47,131),(48,6),(49,132),(50,133),(51,134),(52,210),(53,156),(54,228),(55,190),(56,261),(57,232),(58,231),(59,233),(60,234),(63,204),(68,262),(69,136),(70,137),(71,138),(72,7),(73,139),(74,140),(75,259),(76,213),(77,206),(78,229),(79,241),(80,242),(81,243),(84,244),(87,141),(88,142),(89,248),(90,249),(91,260),(92,265),(93,266),(94,267),(98,272),(99,275),(100,273),(101,274),(103,276),(104,277)]
 eqT:=[(101,[.i .i64,.i .u64])]
 adds:=[97]
def F:Nat→Option RF:=lk (tI10++tI11++tI13++tI15++tLAccount++tLBook++tLFin++tLHand++tLHandMsg++tLShard++tLStore++tLibcmpCompareint++tLibcmpCompareuint64++tLibcmpOrint++tLibcmpisNaNint++tLibcmpisNaNuint64++tLibslicesContainsimplFinimplFin++tLibslicesIndexFuncimplShardimplShard++tLibslicesIndeximplFinimplFin++tS01d++tS10++tS13++tS15++tWHandSend)
def tab:List (Nat×FuncId×RF):=[(302,4,r302),(2,8,r2),(87,12,r87),(154,13,r154),(303,14,r303),(155,15,r155),(304,16,r304),(158,17,r158),(191,18,r191),(305,19,r305),(306,20,r306),(114,28,r114),(203,29,r203),(3,25,r3),(189,30,r189),(205,31,r205),(331,32,r331),(207,33,r207),(230,34,r230),(192,35,r192),(193,36,r193),(133,50,r133),(134,51,r134),(111,24,r111),(5,45,r5),(210,52,r210),(156,53,r156),(228,54,r228),(112,26,r112),(6,48,r6),(132,49,r132),(190,55,r190),(261,56,r261),(232,57,r232),(231,58,r231),(233,59,r233),(234,60,r234),(139,73,r139),(140,74,r140),(128,43,r128),(129,44,r129),(204,63,r204),(259,75,r259),(130,46,r130),(131,47,r131),(7,72,r7),(213,76,r213),(206,77,r206),(229,78,r229),(262,68,r262),(142,88,r142),(136,69,r136),(241,79,r241),(242,80,r242),(243,81,r243),(137,70,r137),(138,71,r138),(248,89,r248),(249,90,r249),(244,84,r244),(260,91,r260),(141,87,r141),(265,92,r265),(266,93,r266),(267,94,r267),(272,98,r272),(275,99,r275),(273,100,r273),(274,101,r274),(276,103,r276),(277,104,r277)]
def tags:List (Nat×TypeId×Nat):=[(9,101,2),(10,103,2),(11,109,5),(12,115,5),(15,3,1),(16,43,6),(20,30,6)]
theorem ok302:FnOk Try.prog c F (302,4,r302):=⟨Try.f4,[],[[8,0,2,1,3,4,5,6,7,9,10],[0,1,2,3,4,5,6,8,9,7,10],[],[],[7,0,2,1,3,4,5,6,8,9],[0,1,2,3,4,5,7,8,6,9],[],[],[0,1,2,3,4],[0,1,2,3,4],[],[],[8,0,2,1,3,4,5,6,7,9,10],[0,1,2,3,4,5,6,8,9,7,10],[],[]],Try.func4,by kernel_rfl,by kernel_rfl,by kernel_rfl⟩
theorem ok2:FnOk Try.prog c F (2,8,r2):=⟨Try.f8,[],[],Try.func8,by kernel_rfl,by kernel_rfl,by kernel_rfl⟩
theorem ok87:FnOk Try.prog c F (87,12,r87):=⟨Try.f12,[],[],Try.func12,by kernel_rfl,by kernel_rfl,by kernel_rfl⟩
theorem ok154:FnOk Try.prog c F (154,13,r154):=⟨Try.f13,[],[],Try.func13,by kernel_rfl,by kernel_rfl,by kernel_rfl⟩
theorem ok303:FnOk Try.prog c F (303,14,r303):=⟨Try.f14,[],[],Try.func14,by kernel_rfl,by kernel_rfl,by kernel_rfl⟩
theorem ok155:FnOk Try.prog c F (155,15,r155):=⟨Try.f15,[],[],Try.func15,by kernel_rfl,by kernel_rfl,by kernel_rfl⟩
theorem ok304:FnOk Try.prog c F (304,16,r304):=⟨Try.f16,[],[],Try.func16,by kernel_rfl,by kernel_rfl,by kernel_rfl⟩
theorem ok158:FnOk Try.prog c F (158,17,r158):=⟨Try.f17,[],[],Try.func17,by kernel_rfl,by kernel_rfl,by kernel_rfl⟩
theorem ok191:FnOk Try.prog c F (191,18,r191):=⟨Try.f18,[],[],Try.func18,by kernel_rfl,by kernel_rfl,by kernel_rfl⟩
theorem ok305:FnOk Try.prog c F (305,19,r305):=⟨Try.f19,[],[],Try.func19,by kernel_rfl,by kernel_rfl,by kernel_rfl⟩
theorem ok306:FnOk Try.prog c F (306,20,r306):=⟨Try.f20,[],[],Try.func20,by kernel_rfl,by kernel_rfl,by kernel_rfl⟩
theorem ok114:FnOk Try.prog c F (114,28,r114):=⟨Try.f28,[],[],Try.func28,by kernel_rfl,by kernel_rfl,by kernel_rfl⟩
theorem ok203:FnOk Try.prog c F (203,29,r203):=⟨Try.f29,[],[[0,1,5]],Try.func29,by kernel_rfl,by kernel_rfl,by kernel_rfl⟩
theorem ok3:FnOk Try.prog c F (3,25,r3):=⟨Try.f25,[],[],Try.func25,by kernel_rfl,by kernel_rfl,by kernel_rfl⟩
theorem ok189:FnOk Try.prog c F (189,30,r189):=⟨Try.f30,[],[],Try.func30,by kernel_rfl,by kernel_rfl,by kernel_rfl⟩
theorem ok205:FnOk Try.prog c F (205,31,r205):=⟨Try.f31,[],[[0,3,4]],Try.func31,by kernel_rfl,by kernel_rfl,by kernel_rfl⟩
theorem ok331:FnOk Try.prog c F (331,32,r331):=⟨Try.f32,[],[[9,0,1,2,3,4,5,6,7,8,10],[0,1,2,3,4,5,6,7,8,9,10],[],[]],Try.func32,by kernel_rfl,by kernel_rfl,by kernel_rfl⟩
theorem ok207:FnOk Try.prog c F (207,33,r207):=⟨Try.f33,[],[[0,1,5],[0,1,2,4,5,6,3,7,8,9],[0,1,2,3,4,5,6,7,8,9],[],[]],Try.func33,by kernel_rfl,by kernel_rfl,by kernel_rfl⟩
theorem ok230:FnOk Try.prog c F (230,34,r230):=⟨Try.f34,[],[[0,1,5]],Try.func34,by kernel_rfl,by kernel_rfl,by kernel_rfl⟩
theorem ok192:FnOk Try.prog c F (192,35,r192):=⟨Try.f35,[],[],Try.func35,by kernel_rfl,by kernel_rfl,by kernel_rfl⟩
theorem ok193:FnOk Try.prog c F (193,36,r193):=⟨Try.f36,[],[],Try.func36,by kernel_rfl,by kernel_rfl,by kernel_rfl⟩
theorem ok133:FnOk Try.prog c F (133,50,r133):=⟨Try.f50,[],[],Try.func50,by kernel_rfl,by kernel_rfl,by kernel_rfl⟩
theorem ok134:FnOk Try.prog c F (134,51,r134):=⟨Try.f51,[],[[0,1,5],[0,1,2,4,5,6,3,7,8,9],[0,1,2,3,4,5,6,7,8,9],[],[]],Try.func51,by kernel_rfl,by kernel_rfl,by kernel_rfl⟩
theorem ok111:FnOk Try.prog c F (111,24,r111):=⟨Try.f24,[],[],Try.func24,by kernel_rfl,by kernel_rfl,by kernel_rfl⟩
theorem ok5:FnOk Try.prog c F (5,45,r5):=⟨Try.f45,[],[],Try.func45,by kernel_rfl,by kernel_rfl,by kernel_rfl⟩
theorem ok210:FnOk Try.prog c F (210,52,r210):=⟨Try.f52,[],[[1,2,3,7]],Try.func52,by kernel_rfl,by kernel_rfl,by kernel_rfl⟩
theorem ok156:FnOk Try.prog c F (156,53,r156):=⟨Try.f53,[],[[1,3],[0,1,2,3,4,5,6,7,8,9,10,11,12,13,16,17,14,15,18,19,20,21,22,23,24,25],[0,1,2,3,4,5,6,7,8,9,10,11,12,13,14,15,16,17,18,19,20,21,22,23,24,25],[],[]],Try.func53,by kernel_rfl,by kernel_rfl,by kernel_rfl⟩
theorem ok228:FnOk Try.prog c F (228,54,r228):=⟨Try.f54,[],[[1,2,3,4]],Try.func54,by kernel_rfl,by kernel_rfl,by kernel_rfl⟩
theorem ok112:FnOk Try.prog c F (112,26,r112):=⟨Try.f26,[],[],Try.func26,by kernel_rfl,by kernel_rfl,by kernel_rfl⟩
theorem ok6:FnOk Try.prog c F (6,48,r6):=⟨Try.f48,[],[],Try.func48,by kernel_rfl,by kernel_rfl,by kernel_rfl⟩
theorem ok132:FnOk Try.prog c F (132,49,r132):=⟨Try.f49,[],[],Try.func49,by kernel_rfl,by kernel_rfl,by kernel_rfl⟩
theorem ok190:FnOk Try.prog c F (190,55,r190):=⟨Try.f55,[],[],Try.func55,by kernel_rfl,by kernel_rfl,by kernel_rfl⟩
theorem ok261:FnOk Try.prog c F (261,56,r261):=⟨Try.f56,[],[[0,1,5]],Try.func56,by kernel_rfl,by kernel_rfl,by kernel_rfl⟩
theorem ok232:FnOk Try.prog c F (232,57,r232):=⟨Try.f57,[],[[0,1,5]],Try.func57,by kernel_rfl,by kernel_rfl,by kernel_rfl⟩
theorem ok231:FnOk Try.prog c F (231,58,r231):=⟨Try.f58,[],[],Try.func58,by kernel_rfl,by kernel_rfl,by kernel_rfl⟩
theorem ok233:FnOk Try.prog c F (233,59,r233):=⟨Try.f59,[],[],Try.func59,by kernel_rfl,by kernel_rfl,by kernel_rfl⟩
theorem ok234:FnOk Try.prog c F (234,60,r234):=⟨Try.f60,[],[[0,1,5]],Try.func60,by kernel_rfl,by kernel_rfl,by kernel_rfl⟩
theorem ok139:FnOk Try.prog c F (139,73,r139):=⟨Try.f73,[],[[0,1,5],[0,1,2,4,5,6,3,7,8,9],[0,1,2,3,4,5,6,7,8,9],[],[]],Try.func73,by kernel_rfl,by kernel_rfl,by kernel_rfl⟩
theorem ok140:FnOk Try.prog c F (140,74,r140):=⟨Try.f74,[],[],Try.func74,by kernel_rfl,by kernel_rfl,by kernel_rfl⟩
theorem ok128:FnOk Try.prog c F (128,43,r128):=⟨Try.f43,[],[],Try.func43,by kernel_rfl,by kernel_rfl,by kernel_rfl⟩
theorem ok129:FnOk Try.prog c F (129,44,r129):=⟨Try.f44,[],[],Try.func44,by kernel_rfl,by kernel_rfl,by kernel_rfl⟩
theorem ok204:FnOk Try.prog c F (204,63,r204):=⟨Try.f63,[],[[1,3],[0,1,2,3,4,5,6,7,8,9,10,11,12,13,14,15,16,17,18,19,20,23,24,21,22,25,26,27,28,29,30,31],[0,1,2,3,4,5,6,7,8,9,10,11,12,13,14,15,16,17,18,19,20,21,22,23,24,25,26,27,28,29,30,31],[],[],[1,5]],Try.func63,by kernel_rfl,by kernel_rfl,by kernel_rfl⟩
theorem ok259:FnOk Try.prog c F (259,75,r259):=⟨Try.f75,[],[[1,2,3,4],[4,0,1,2,3,5,6,7,8,9,10],[0,1,2,3,4,5,6,7,8,9,10],[],[]],Try.func75,by kernel_rfl,by kernel_rfl,by kernel_rfl⟩
theorem ok130:FnOk Try.prog c F (130,46,r130):=⟨Try.f46,[],[],Try.func46,by kernel_rfl,by kernel_rfl,by kernel_rfl⟩
theorem ok131:FnOk Try.prog c F (131,47,r131):=⟨Try.f47,[],[[0,3,4]],Try.func47,by kernel_rfl,by kernel_rfl,by kernel_rfl⟩
theorem ok7:FnOk Try.prog c F (7,72,r7):=⟨Try.f72,[],[],Try.func72,by kernel_rfl,by kernel_rfl,by kernel_rfl⟩
theorem ok213:FnOk Try.prog c F (213,76,r213):=⟨Try.f76,[4,5],[],Try.func76,by kernel_rfl,by kernel_rfl,by kernel_rfl⟩
theorem ok206:FnOk Try.prog c F (206,77,r206):=⟨Try.f77,[],[[1,26,27,28],[0,1,2,3,4,5,6,7,8,9,10,11,12,13,16,17,14,15,18,19,20,21,22,23,24,25],[0,1,2,3,4,5,6,7,8,9,10,11,12,13,14,15,16,17,18,19,20,21,22,23,24,25],[],[]],Try.func77,by kernel_rfl,by kernel_rfl,by kernel_rfl⟩
theorem ok229:FnOk Try.prog c F (229,78,r229):=⟨Try.f78,[],[],Try.func78,by kernel_rfl,by kernel_rfl,by kernel_rfl⟩
theorem ok262:FnOk Try.prog c F (262,68,r262):=⟨Try.f68,[],[[0,1,5]],Try.func68,by kernel_rfl,by kernel_rfl,by kernel_rfl⟩
theorem ok142:FnOk Try.prog c F (142,88,r142):=⟨Try.f88,[],[],Try.func88,by kernel_rfl,by kernel_rfl,by kernel_rfl⟩
theorem ok136:FnOk Try.prog c F (136,69,r136):=⟨Try.f69,[],[],Try.func69,by kernel_rfl,by kernel_rfl,by kernel_rfl⟩
theorem ok241:FnOk Try.prog c F (241,79,r241):=⟨Try.f79,[],[[1,3],[0,1,2,5,6,3,4,7,8,9,10,11,12,13,14,15,16,17,18,19,20,21,22,23,24,25,26,27,28,29,30,31,32,33],[0,1,2,3,4,5,6,7,8,9,10,11,12,13,14,15,16,17,18,19,20,21,22,23,24,25,26,27,28,29,30,31,32,33],[],[]],Try.func79,by kernel_rfl,by kernel_rfl,by kernel_rfl⟩
theorem ok242:FnOk Try.prog c F (242,80,r242):=⟨Try.f80,[],[],Try.func80,by kernel_rfl,by kernel_rfl,by kernel_rfl⟩
theorem ok243:FnOk Try.prog c F (243,81,r243):=⟨Try.f81,[],[[0,3,5],[0,1,2,3,4,5],[0,1,2,3,4,5],[],[]],Try.func81,by kernel_rfl,by kernel_rfl,by kernel_rfl⟩
theorem ok137:FnOk Try.prog c F (137,70,r137):=⟨Try.f70,[],[[0,3,4]],Try.func70,by kernel_rfl,by kernel_rfl,by kernel_rfl⟩
theorem ok138:FnOk Try.prog c F (138,71,r138):=⟨Try.f71,[],[],Try.func71,by kernel_rfl,by kernel_rfl,by kernel_rfl⟩
theorem ok248:FnOk Try.prog c F (248,89,r248):=⟨Try.f89,[],[[0,1,7,8]],Try.func89,by kernel_rfl,by kernel_rfl,by kernel_rfl⟩
theorem ok249:FnOk Try.prog c F (249,90,r249):=⟨Try.f90,[],[],Try.func90,by kernel_rfl,by kernel_rfl,by kernel_rfl⟩
theorem ok244:FnOk Try.prog c F (244,84,r244):=⟨Try.f84,[],[[1,46,47,48],[1,76,77,78],[0,1,2,3,4,5,6,7,8,9,10,11,12,13,14,15,16,17,18,19,20,23,24,21,22,25,26,27,28,29,30,31],[0,1,2,3,4,5,6,7,8,9,10,11,12,13,14,15,16,17,18,19,20,21,22,23,24,25,26,27,28,29,30,31],[],[]],Try.func84,by kernel_rfl,by kernel_rfl,by kernel_rfl⟩
theorem ok260:FnOk Try.prog c F (260,91,r260):=⟨Try.f91,[],[],Try.func91,by kernel_rfl,by kernel_rfl,by kernel_rfl⟩
theorem ok141:FnOk Try.prog c F (141,87,r141):=⟨Try.f87,[],[],Try.func87,by kernel_rfl,by kernel_rfl,by kernel_rfl⟩
theorem ok265:FnOk Try.prog c F (265,92,r265):=⟨Try.f92,[],[[1,10,11,12],[0,1,2,3,4,5,6,7,8,9,10,11,12,13,14,15,16,17,18,19,20,21,22,23,24,25,26,27,30,31,28,29,32,33,34,35,36,37,38,39],[0,1,2,3,4,5,6,7,8,9,10,11,12,13,14,15,16,17,18,19,20,21,22,23,24,25,26,27,28,29,30,31,32,33,34,35,36,37,38,39],[],[]],Try.func92,by kernel_rfl,by kernel_rfl,by kernel_rfl⟩
theorem ok266:FnOk Try.prog c F (266,93,r266):=⟨Try.f93,[],[],Try.func93,by kernel_rfl,by kernel_rfl,by kernel_rfl⟩
theorem ok267:FnOk Try.prog c F (267,94,r267):=⟨Try.f94,[],[[0,1,2,3,5,6,7,8,4,9,10,11,12],[0,1,2,3,4,5,6,7,8,9,10,11,12],[],[]],Try.func94,by kernel_rfl,by kernel_rfl,by kernel_rfl⟩
theorem ok272:FnOk Try.prog c F (272,98,r272):=⟨Try.f98,[],[[0,3,7,8],[1,2,3,0,4,5],[0,1,2,3,4,5],[],[]],Try.func98,by kernel_rfl,by kernel_rfl,by kernel_rfl⟩
theorem ok275:FnOk Try.prog c F (275,99,r275):=⟨Try.f99,[],[[3,6,7,8]],Try.func99,by kernel_rfl,by kernel_rfl,by kernel_rfl⟩
theorem ok273:FnOk Try.prog c F (273,100,r273):=⟨Try.f100,[],[],Try.func100,by kernel_rfl,by kernel_rfl,by kernel_rfl⟩
theorem ok274:FnOk Try.prog c F (274,101,r274):=⟨Try.f101,[],[],Try.func101,by kernel_rfl,by kernel_rfl,by kernel_rfl⟩
theorem ok276:FnOk Try.prog c F (276,103,r276):=⟨Try.f103,[],[],Try.func103,by kernel_rfl,by kernel_rfl,by kernel_rfl⟩
theorem ok277:FnOk Try.prog c F (277,104,r277):=⟨Try.f104,[],[],Try.func104,by kernel_rfl,by kernel_rfl,by kernel_rfl⟩
theorem okT:(c.T.all fun x=>x.2.okB Try.prog (mkCfg Try.prog tab tags).ET (mkCfg Try.prog tab tags).SZ x.1)=true:=by kernel_rfl
theorem okF:(c.F.all fun x=>decide ((lk tab x.2).map (·.1)=some x.1))=true:=by kernel_rfl
theorem okTab:AllT (FnOk Try.prog c F) tab:=⟨ok302,ok2,ok87,ok154,ok303,ok155,ok304,ok158,ok191,ok305,ok306,ok114,ok203,ok3,ok189,ok205,ok331,ok207,ok230,ok192,ok193,ok133,ok134,ok111,ok5,ok210,ok156,ok228,ok112,ok6,ok132,ok190,ok261,ok232,ok231,ok233,ok234,ok139,ok140,ok128,ok129,ok204,ok259,ok130,ok131,ok7,ok213,ok206,ok229,ok262,ok142,ok136,ok241,ok242,ok243,ok137,ok138,ok248,ok249,ok244,ok260,ok141,ok265,ok266,ok267,ok272,ok275,ok273,ok274,ok276,ok277,trivial⟩
theorem prog (O:Nat):ProgOk ((mkCfg Try.prog tab tags).at O) c F (fun _ _ _=>none):=
 mkProg okT okF okTab ⟨⟨Try.f97,Try.func97,by kernel_rfl,by kernel_rfl,by kernel_rfl,by kernel_rfl⟩,trivial⟩ ⟨⟨by kernel_rfl,by kernel_rfl,by kernel_rfl⟩,trivial⟩ O
theorem inI10:AllT (fun x=>F x.1=some x.2) tI10:=⟨rfl,rfl,trivial⟩
theorem inI11:AllT (fun x=>F x.1=some x.2) tI11:=⟨rfl,trivial⟩
theorem inI13:AllT (fun x=>F x.1=some x.2) tI13:=⟨rfl,rfl,rfl,rfl,rfl,rfl,rfl,trivial⟩
theorem inI15:AllT (fun x=>F x.1=some x.2) tI15:=⟨rfl,rfl,rfl,rfl,trivial⟩
theorem inLAccount:AllT (fun x=>F x.1=some x.2) tLAccount:=⟨rfl,rfl,rfl,rfl,rfl,rfl,rfl,trivial⟩
theorem inLBook:AllT (fun x=>F x.1=some x.2) tLBook:=⟨rfl,rfl,rfl,rfl,rfl,trivial⟩
theorem inLFin:AllT (fun x=>F x.1=some x.2) tLFin:=⟨rfl,rfl,rfl,rfl,rfl,rfl,rfl,trivial⟩
theorem inLHand:AllT (fun x=>F x.1=some x.2) tLHand:=⟨rfl,trivial⟩
theorem inLHandMsg:AllT (fun x=>F x.1=some x.2) tLHandMsg:=⟨rfl,rfl,rfl,trivial⟩
theorem inLShard:AllT (fun x=>F x.1=some x.2) tLShard:=⟨rfl,rfl,rfl,rfl,rfl,rfl,rfl,rfl,rfl,trivial⟩
theorem inLStore:AllT (fun x=>F x.1=some x.2) tLStore:=⟨rfl,rfl,rfl,rfl,trivial⟩
theorem inLibcmpCompareint:AllT (fun x=>F x.1=some x.2) tLibcmpCompareint:=⟨rfl,trivial⟩
theorem inLibcmpCompareuint64:AllT (fun x=>F x.1=some x.2) tLibcmpCompareuint64:=⟨rfl,trivial⟩
theorem inLibcmpOrint:AllT (fun x=>F x.1=some x.2) tLibcmpOrint:=⟨rfl,trivial⟩
theorem inLibcmpisNaNint:AllT (fun x=>F x.1=some x.2) tLibcmpisNaNint:=⟨rfl,trivial⟩
theorem inLibcmpisNaNuint64:AllT (fun x=>F x.1=some x.2) tLibcmpisNaNuint64:=⟨rfl,trivial⟩
theorem inLibslicesContainsimplFinimplFin:AllT (fun x=>F x.1=some x.2) tLibslicesContainsimplFinimplFin:=⟨rfl,trivial⟩
theorem inLibslicesIndexFuncimplShardimplShard:AllT (fun x=>F x.1=some x.2) tLibslicesIndexFuncimplShardimplShard:=⟨rfl,trivial⟩
theorem inLibslicesIndeximplFinimplFin:AllT (fun x=>F x.1=some x.2) tLibslicesIndeximplFinimplFin:=⟨rfl,trivial⟩
theorem inS01d:AllT (fun x=>F x.1=some x.2) tS01d:=⟨rfl,trivial⟩
theorem inS10:AllT (fun x=>F x.1=some x.2) tS10:=⟨rfl,rfl,trivial⟩
theorem inS13:AllT (fun x=>F x.1=some x.2) tS13:=⟨rfl,rfl,rfl,rfl,rfl,rfl,rfl,trivial⟩
theorem inS15:AllT (fun x=>F x.1=some x.2) tS15:=⟨rfl,rfl,trivial⟩
theorem inWHandSend:AllT (fun x=>F x.1=some x.2) tWHandSend:=⟨rfl,trivial⟩
end Go.Proofs.Yteagcdhkobeanaa.A.ExactHandSend
namespace Go.Proofs.Yteagcdhkobeanaa.A
open Go
set_option linter.unusedSimpArgs false
set_option linter.unusedVariables false
set_option maxHeartbeats 2000000 in
theorem law_ExactHandSend {F:Nat→Option RF} {Z:CallF} (hI10:Has F tI10) (hI11:Has F tI11) (hI13:Has F tI13) (hI15:Has F tI15) (hLAccount:Has F tLAccount) (hLBook:Has F tLBook) (hLFin:Has F tLFin) (hLHand:Has F tLHand) (hLHandMsg:Has F tLHandMsg) (hLShard:Has F tLShard) (hLStore:Has F tLStore) (hLibcmpCompareint:Has F tLibcmpCompareint) (hLibcmpCompareuint64:Has F tLibcmpCompareuint64) (hLibcmpOrint:Has F tLibcmpOrint) (hLibcmpisNaNint:Has F tLibcmpisNaNint) (hLibcmpisNaNuint64:Has F tLibcmpisNaNuint64) (hLibslicesContainsimplFinimplFin:Has F tLibslicesContainsimplFinimplFin) (hLibslicesIndexFuncimplShardimplShard:Has F tLibslicesIndexFuncimplShardimplShard) (hLibslicesIndeximplFinimplFin:Has F tLibslicesIndeximplFinimplFin) (hS01d:Has F tS01d) (hS10:Has F tS10) (hS13:Has F tS13) (hS15:Has F tS15) (hWHandSend:Has F tWHandSend) (h:Heap) (avs:List V) (hfl:h.floor=h.next) (w:ArgsWf h 8 [shHand,shStore] avs): ∃h',call F Z 302 avs h=some (.c (.bool true),h'):=by
 obtain ⟨ac,_,rfl,aw,w1⟩:=ArgsWf.struct w
 obtain ⟨a,rfl,aok⟩:=Wf.isHand aw
 obtain ⟨sc,_,rfl,sw,w2⟩:=ArgsWf.struct w1
 obtain ⟨s,sp,sv,sok⟩:=Wf.isStore sw
 obtain ⟨sl1,sl2,sl3⟩:=Store.lenL sv
 obtain rfl:=w2.nil
 have f0:h.floor≤h.next:=by omega
 rw[call_run F Z (hWHandSend.lk (g:=302) rfl) _ _ rfl]
 obtain ⟨l0,s0,s0l,s0k⟩:=szStore_c hLStore hLShard hLBook hLAccount hLFin (Z:=Z) sv 1048576 (by omega) (by omega)
 simp only[rn,RO.dst,lk,drop,Nat.reduceBEq,Nat.reduceAdd,Nat.reduceLeDiff,↓reduceIte,reduceCtorEq,s0,toHand_e hLHand,Hand.len,Hand.tak,Hand.drp,sl1,sl2,sl3]
 by_cases hn0:l0<0
 ·simp only[rn,RO.dst,lk,drop,Nat.reduceBEq,Nat.reduceAdd,Nat.reduceLeDiff,↓reduceIte,reduceCtorEq,hn0]
  exact ⟨_,rfl⟩
 have sm0:=s0k (by omega)
 have flr:h.floor=h.next:=hfl
 have Tsv:=Store.okL.lt sv
 obtain ⟨y1,hq1,p1,e1,oq1,vq1,qq1⟩:=toStore_c hLStore hLShard hLBook hLAccount hLFin (Z:=Z) (h:=⟨h.next,h.next,h.get⟩) (Nat.le_refl _) (Store.okL.up sv _) sm0
 obtain ⟨h1,mq1⟩: ∃g,Heap.mk hq1.next h.floor hq1.get=g:=⟨_,rfl⟩
 have o1:On h h1:=by rw[←mq1];exact ⟨⟨oq1.ext.1,oq1.ext.2⟩,rfl⟩
 have v1:=Store.okI.up vq1 h.floor
 rw[mq1] at v1
 have q1:Fre h p1:=⟨qq1.lo,qq1.nd⟩
 replace sv:=Store.okL.on sv o1
 have n1:=o1.ext.1
 have g1:=o1.fl
 have f1:=o1.le f0
 obtain ⟨vl1,vt1,vd1⟩:=Store.lenI v1
 obtain ⟨r2_0,hq2,p2_0,e2,oq2,vq2_0,qq2_0⟩:=sHandSend_c ⟨hS01d,hS10,hS13⟩ hS15 (Z:=Z) (h:=⟨h1.next,h1.next,h1.get⟩) (Nat.le_refl _) a (Store.okI.up v1 _) sok sm0
 obtain ⟨h2,mq2⟩: ∃g,Heap.mk hq2.next h1.floor hq2.get=g:=⟨_,rfl⟩
 have o2:On h1 h2:=by rw[←mq2];exact ⟨⟨oq2.ext.1,oq2.ext.2⟩,rfl⟩
 have v2_0:=HandMsg.okI.up vq2_0 h1.floor
 rw[mq2] at v2_0
 have q2_0:Fre h1 p2_0:=⟨qq2_0.lo,qq2_0.nd⟩
 replace sv:=Store.okL.on sv o2
 replace v1:=Store.okI.on v1 o2
 have n2:=o2.ext.1
 have g2:=o2.fl
 have f2:=o2.le f1
 have Tv2_0:=HandMsg.okI.lt v2_0
 obtain ⟨vl2_0,vt2_0,vd2_0⟩:=HandMsg.lenI v2_0
 obtain ⟨y3,h3,p3,e3,o3,v3,q3⟩:=toStore_c hLStore hLShard hLBook hLAccount hLFin (Z:=Z) f2 sv sm0
 replace sv:=Store.okL.on sv o3
 replace v1:=Store.okI.on v1 o3
 replace v2_0:=HandMsg.okI.on v2_0 o3
 have n3:=o3.ext.1
 have g3:=o3.fl
 have f3:=o3.le f2
 have Tv3:=Store.okI.lt v3
 obtain ⟨vl3,vt3,vd3⟩:=Store.lenI v3
 obtain ⟨r4_0,hq4,p4_0,e4,oq4,vq4_0,qq4_0⟩:=HandSend_c ⟨hI10,hI11,hI13,hLibcmpCompareint,hLibcmpCompareuint64,hLibcmpOrint,hLibcmpisNaNint,hLibcmpisNaNuint64,hLibslicesIndeximplFinimplFin,hLibslicesContainsimplFinimplFin⟩ hI15 hLibslicesIndexFuncimplShardimplShard (Z:=Z) (h:=⟨h3.next,h3.next,h3.get⟩) (Nat.le_refl _) a (Store.okI.up v3 _) sok sm0
 obtain ⟨h4,mq4⟩: ∃g,Heap.mk hq4.next h3.floor hq4.get=g:=⟨_,rfl⟩
 have o4:On h3 h4:=by rw[←mq4];exact ⟨⟨oq4.ext.1,oq4.ext.2⟩,rfl⟩
 have v4_0:=HandMsg.okI.up vq4_0 h3.floor
 rw[mq4] at v4_0
 have q4_0:Fre h3 p4_0:=⟨qq4_0.lo,qq4_0.nd⟩
 replace sv:=Store.okL.on sv o4
 replace v1:=Store.okI.on v1 o4
 replace v2_0:=HandMsg.okI.on v2_0 o4
 replace v3:=Store.okI.on v3 o4
 have n4:=o4.ext.1
 have g4:=o4.fl
 have f4:=o4.le f3
 obtain ⟨vl4_0,vt4_0,vd4_0⟩:=HandMsg.lenI v4_0
 have c1:=eqHandMsg_r hLHandMsg hLShard hLBook hLAccount hLFin (Z:=Z) v4_0 v2_0
 obtain ⟨y5,hq5,p5,e5,oq5,vq5,qq5⟩:=toStore_c hLStore hLShard hLBook hLAccount hLFin (Z:=Z) (h:=⟨h4.next,h4.next,h4.get⟩) (Nat.le_refl _) (Store.okL.up sv _) sm0
 obtain ⟨h5,mq5⟩: ∃g,Heap.mk hq5.next h4.floor hq5.get=g:=⟨_,rfl⟩
 have o5:On h4 h5:=by rw[←mq5];exact ⟨⟨oq5.ext.1,oq5.ext.2⟩,rfl⟩
 have v5:=Store.okI.up vq5 h4.floor
 rw[mq5] at v5
 have q5:Fre h4 p5:=⟨qq5.lo,qq5.nd⟩
 replace sv:=Store.okL.on sv o5
 replace v1:=Store.okI.on v1 o5
 replace v2_0:=HandMsg.okI.on v2_0 o5
 replace v3:=Store.okI.on v3 o5
 replace v4_0:=HandMsg.okI.on v4_0 o5
 have n5:=o5.ext.1
 have g5:=o5.fl
 have f5:=o5.le f4
 obtain ⟨vl5,vt5,vd5⟩:=Store.lenI v5
 have c2:=eqStore_r hLStore hLShard hLBook hLAccount hLFin (Z:=Z) (h:=⟨h5.next,h5.next,h5.get⟩) (Store.okI.up v3 _) (Store.okI.up v5 _)
 have hb1:=Store.wt_le sm0
 have hb2:=s.wt_nn
 have hb3:=HandMsg.wt_le (handSend_small sm0 a)
 have hb4:=(handSend a s).1.wt_nn
 have lo6: ∀id,id∈p3→h5.floor≤id:=fun id hid=>by have:=q3.lo id hid;omega
 obtain ⟨h6,m6,k6,u6⟩:=markStore_r hLStore hLShard hLBook hLAccount hLFin (Z:=Z) v3 q3.nd lo6 (1) (by omega) (by omega)
 replace sv:=Store.okL.mk' sv k6 fun id h1 h2=>by have a1:=q3.lo id h2;have a2:=Tsv id h1;omega
 replace v2_0:=HandMsg.okI.mk' v2_0 k6 fun id h1 h2=>by have a1:=q3.lo id h2;have a2:=Tv2_0 id h1;omega
 replace v4_0:=HandMsg.okI.mk' v4_0 k6 fun id h1 h2=>by have a1:=q3.lo id h2;have a2:=Tv3 id h2;have a3:=q4_0.lo id h1;omega
 have n6:=k6.next
 have g6:=k6.fl
 have f6:h6.floor≤h6.next:=by omega
 replace v3:=u6
 have hk6: ¬(1+s.wt:Int)<0:=by omega
 have c3:=eqHandMsg_r hLHandMsg hLShard hLBook hLAccount hLFin (Z:=Z) v4_0 v2_0
 have lo7: ∀id,id∈p4_0→h6.floor≤id:=fun id hid=>by have:=q4_0.lo id hid;omega
 obtain ⟨h7,m7,k7,u7⟩:=markHandMsg_r hLHandMsg hLShard hLBook hLAccount hLFin (Z:=Z) v4_0 q4_0.nd lo7 (1) (by omega) (by omega)
 replace sv:=Store.okL.mk' sv k7 fun id h1 h2=>by have a1:=q4_0.lo id h2;have a2:=Tsv id h1;omega
 replace v2_0:=HandMsg.okI.mk' v2_0 k7 fun id h1 h2=>by have a1:=q4_0.lo id h2;have a2:=Tv2_0 id h1;omega
 have n7:=k7.next
 have g7:=k7.fl
 have f7:h7.floor≤h7.next:=by omega
 replace v4_0:=u7
 have hkk: ¬(1+((handSend a s).1).wt:Int)<0:=by omega
 have d4:=heldHandMsg_r hLHandMsg hLShard hLBook hLAccount hLFin (Z:=Z) v4_0 (by omega) (by omega)
 have hh5: ¬(1+((handSend a s).1).wt:Int)<0:=by omega
 obtain ⟨y8,hq8,p8,e8,oq8,vq8,qq8⟩:=toStore_c hLStore hLShard hLBook hLAccount hLFin (Z:=Z) (h:=⟨h7.next,h7.next,h7.get⟩) (Nat.le_refl _) (Store.okL.up sv _) sm0
 obtain ⟨h8,mq8⟩: ∃g,Heap.mk hq8.next h7.floor hq8.get=g:=⟨_,rfl⟩
 have o8:On h7 h8:=by rw[←mq8];exact ⟨⟨oq8.ext.1,oq8.ext.2⟩,rfl⟩
 have v8:=Store.okI.up vq8 h7.floor
 rw[mq8] at v8
 have q8:Fre h7 p8:=⟨qq8.lo,qq8.nd⟩
 replace sv:=Store.okL.on sv o8
 replace v2_0:=HandMsg.okI.on v2_0 o8
 replace v4_0:=HandMsg.okI.on v4_0 o8
 have n8:=o8.ext.1
 have g8:=o8.fl
 have f8:=o8.le f7
 obtain ⟨vl8,vt8,vd8⟩:=Store.lenI v8
 obtain ⟨r9_0,hq9,p9_0,e9,oq9,vq9_0,qq9_0⟩:=HandSend_c ⟨hI10,hI11,hI13,hLibcmpCompareint,hLibcmpCompareuint64,hLibcmpOrint,hLibcmpisNaNint,hLibcmpisNaNuint64,hLibslicesIndeximplFinimplFin,hLibslicesContainsimplFinimplFin⟩ hI15 hLibslicesIndexFuncimplShardimplShard (Z:=Z) (h:=⟨h8.next,h8.next,h8.get⟩) (Nat.le_refl _) a (Store.okI.up v8 _) sok sm0
 obtain ⟨h9,mq9⟩: ∃g,Heap.mk hq9.next h8.floor hq9.get=g:=⟨_,rfl⟩
 have o9:On h8 h9:=by rw[←mq9];exact ⟨⟨oq9.ext.1,oq9.ext.2⟩,rfl⟩
 have v9_0:=HandMsg.okI.up vq9_0 h8.floor
 rw[mq9] at v9_0
 have q9_0:Fre h8 p9_0:=⟨qq9_0.lo,qq9_0.nd⟩
 replace sv:=Store.okL.on sv o9
 replace v2_0:=HandMsg.okI.on v2_0 o9
 replace v4_0:=HandMsg.okI.on v4_0 o9
 replace v8:=Store.okI.on v8 o9
 have n9:=o9.ext.1
 have g9:=o9.fl
 have f9:=o9.le f8
 obtain ⟨vl9_0,vt9_0,vd9_0⟩:=HandMsg.lenI v9_0
 have c6:=eqHandMsg_r hLHandMsg hLShard hLBook hLAccount hLFin (Z:=Z) v9_0 v2_0
 have d7:=heldHandMsg_r hLHandMsg hLShard hLBook hLAccount hLFin (Z:=Z) v4_0 (by omega) (by omega)
 have hh8: ¬(1+((handSend a s).1).wt:Int)<0:=by omega
 simp only[rn,RO.dst,lk,drop,Nat.reduceBEq,Nat.reduceAdd,Nat.reduceLeDiff,↓reduceIte,reduceCtorEq,hn0,toHand_e hLHand,Hand.len,Hand.tak,Hand.drp,sl1,sl2,sl3,mq1,e1,vl1,vt1,vd1,mq2,e2,vl2_0,vt2_0,vd2_0,e3,vl3,vt3,vd3,mq4,e4,vl4_0,vt4_0,vd4_0,c1,mq5,e5,vl5,vt5,vd5,c2,m6,hk6,c3,m7,hkk,d4,hh5,mq8,e8,vl8,vt8,vd8,mq9,e9,vl9_0,vt9_0,vd9_0,c6,d7,hh8]
 exact ⟨_,rfl⟩
end Go.Proofs.Yteagcdhkobeanaa.A
namespace Go.Proofs.Yteagcdhkobeanaa.A.ExactHandSend
open Go Go.ChangeShapes Go.WideShapes Go.ChangeAt Go.RowKit
theorem own:ownKnob Try.prog.godebug=none:=by kernel_rfl
set_option maxRecDepth 100000 in
theorem lifted (os:Os) (started:os.Started) (H:Type) (enc:TypeId×Value→H):
 ReturnsInHanded {} Try.checked os 4 .any (Rows.fnExactHandSendSpec.pre6 enc Try.prog Try.f4 Rows.fnExactHandSendRow.domain false) (Rows.fnExactHandSendSpec.post enc Try.prog Try.f4 false true false false):=by
 refine returnsInHanded_of_change_sized (C:=Try.checked) own started (by kernel_rfl) Try.func4
  (ChangeSpec.witness6 (enc:=enc) (C:=Try.checked) false ⟨#[],#[.agg #[.int .u64 0,.int .i64 0,.int .i64 0,.int .i64 0,.int .i64 0],.agg #[.int .i64 0,.int .i64 0,.slice none 0 0]],[]⟩ 8 (by kernel_rfl) (by kernel_rfl) (by kernel_rfl) (by kernel_rfl)) ?_
 intro W base args ds gs before hval hW _ _ _
 have hW':=hW
 obtain ⟨p,q,hA,hV,rfl,hfz,hnd⟩:=hW
 obtain ⟨rfl,rfl⟩:=trodVars_none hV
 have r0:DataW.TrodAll enc Try.prog W 0 (fun _=>true) true [24,52] args.toList ds p:=hA
 obtain ⟨_,_,d0,_,_,_,_,rfl,_,_,r1⟩:=trodAll_cons r0
 obtain ⟨_,_,d1,_,_,_,_,rfl,_,_,r2⟩:=trodAll_cons r1
 obtain ⟨_,rfl,_⟩:=trodAll_nil r2
 refine (law_calls (ts:=[24,52]) (ss:=[shHand,shStore]) prog (show (mkCfg Try.prog tab tags).G 302=some 4 from by kernel_rfl) ⟨show shIs Try.prog (mkCfg Try.prog tab tags).ET (mkCfg Try.prog tab tags).SZ 8 24 shHand=true from by kernel_rfl,show shIs Try.prog (mkCfg Try.prog tab tags).ET (mkCfg Try.prog tab tags).SZ 8 52 shStore=true from by kernel_rfl,trivial⟩ (law_ExactHandSend inI10 inI11 inI13 inI15 inLAccount inLBook inLFin inLHand inLHandMsg inLShard inLStore inLibcmpCompareint inLibcmpCompareuint64 inLibcmpOrint inLibcmpisNaNint inLibcmpisNaNuint64 inLibslicesContainsimplFinimplFin inLibslicesIndexFuncimplShardimplShard inLibslicesIndeximplFinimplFin inS01d inS10 inS13 inS15 inWHandSend) (fun j t v h1=>hval j t v (by rw[Try.params4];exact (List.getElem?_toArray ..).trans h1)) hA).mono fun e W' ⟨he,bel⟩=> ?_
 subst he
 exact ⟨_,rfl,_,_,_,[],_,[],hW',trodAll_mk1 (shut_bool Try.underlying4 _),trodAll_below (by kernel_rfl) bel _ _ _ _ (by kernel_rfl) hA hA.lt,rfl,bel.frame _,fun h=>by cases h⟩
theorem over:Rows.fnExactHandSendRow.holds Try.pinned (OpenSpec.ofChange Rows.fnExactHandSendSpec):=
 OpenClaim.holds_of_wide 4 Try.f4 rfl rfl rfl rfl rfl rfl rfl ⟨rfl,rfl,rfl,rfl,rfl⟩ rfl rfl rfl rfl rfl (by kernel_rfl) Try.func4 (by kernel_rfl)
  (of_decide_eq_true (by kernel_rfl)) (by unfold Func.isWrapper;first | (rw[if_pos (by decide+kernel)];kernel_rfl) | (rw[if_neg (by decide+kernel)];exact ⟨rfl,rfl⟩))
  (fun os started H enc _=>lifted os started H enc)
end Go.Proofs.Yteagcdhkobeanaa.A.ExactHandSend
namespace Go.Proofs.Yteagcdhkobeanaa
/-- The row. -/
theorem fnExactHandSend_holds:Rows.FnExactHandSendSaid:=A.ExactHandSend.over
#print axioms fnExactHandSend_holds
end Go.Proofs.Yteagcdhkobeanaa
