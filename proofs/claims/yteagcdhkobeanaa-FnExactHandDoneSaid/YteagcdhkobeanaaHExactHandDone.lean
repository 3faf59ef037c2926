/- FnExactHandDone: the statement, from the law of the abstract run. No condition. -/
import Derived.Test.YteagcdhkobeanaaHCExactHandDone1
import Derived.Test.YteagcdhkobeanaaB6
import Derived.Test.YteagcdhkobeanaaProg
import Derived.Test.YteagcdhkobeanaaRows
import Derived.ProofKit
import Derived.OpenShut
import Derived.ShutString
import Derived.ChangeOld
import Derived.Below
import Derived.SizedLaws
namespace Go.Proofs.Yteagcdhkobeanaa.A.ExactHandDone
open Go
set_option maxRecDepth 100000
def c:CC where
 T:=[(3,⟨1,8,false,some [.int .i64 0],(.int .i64)⟩),
  (4,⟨1,1,false,some [.bool false],.bool⟩),
  (22,⟨1,8,false,some [.int .u64 0],(.int .u64)⟩),
  (24,⟨5,40,true,some [.int .u64 0,.int .i64 0,.int .i64 0,.int .i64 0,.int .i64 0],(.struct [(0,1,false),(1,1,false),(2,1,false),(3,1,false),(4,1,false)])⟩),
  (25,⟨1,24,false,some [.nil],(.slice 115 12)⟩),
  (27,⟨1,24,true,some [.nil],(.struct [(0,1,false)])⟩),
  (28,⟨1,24,false,some [.nil],(.slice 103 10)⟩),
  (30,⟨6,80,true,some [.int .u64 0,.int .u64 0,.int .i64 0,.int .i64 0,.nil,.nil],(.struct [(0,1,false),(1,1,false),(2,1,false),(3,1,false),(4,1,true),(5,1,false)])⟩),
  (32,⟨10,112,true,some [.int .i64 0,.int .u64 0,.int .i64 0,.int .i64 0,.int .u64 0,.int .u64 0,.int .i64 0,.int .i64 0,.nil,.nil],(.struct [(0,1,false),(1,1,false),(2,1,false),(3,1,false),(4,6,true)])⟩),
  (34,⟨5,40,true,some [.int .u64 0,.int .i64 0,.int .i64 0,.int .i64 0,.int .i64 0],(.struct [(0,1,false),(1,1,false),(2,1,false),(3,1,false),(4,1,false)])⟩),
  (38,⟨1,24,false,some [.nil],(.slice 109 11)⟩),
  (40,⟨1,24,true,some [.nil],(.struct [(0,1,false)])⟩),
  (41,⟨1,24,false,some [.nil],(.slice 101 9)⟩),
  (43,⟨6,80,true,some [.int .u64 0,.int .u64 0,.int .i64 0,.int .i64 0,.nil,.nil],(.struct [(0,1,false),(1,1,false),(2,1,false),(3,1,false),(4,1,true),(5,1,false)])⟩),
  (45,⟨10,112,true,some [.int .i64 0,.int .u64 0,.int .i64 0,.int .i64 0,.int .u64 0,.int .u64 0,.int .i64 0,.int .i64 0,.nil,.nil],(.struct [(0,1,false),(1,1,false),(2,1,false),(3,1,false),(4,6,true)])⟩),
  (101,⟨2,16,true,some [.int .i64 0,.int .u64 0],(.struct [(0,1,false),(1,1,false)])⟩),
  (103,⟨2,16,true,some [.int .i64 0,.int .u64 0],(.struct [(0,1,false),(1,1,false)])⟩),
  (109,⟨5,40,true,some [.int .u64 0,.int .u64 0,.int .u64 0,.int .u64 0,.int .i64 0],(.struct [(0,1,false),(1,1,false),(2,1,false),(3,1,false),(4,1,false)])⟩),
  (115,⟨5,40,true,some [.int .u64 0,.int .u64 0,.int .u64 0,.int .u64 0,.int .i64 0],(.struct [(0,1,false),(1,1,false),(2,1,false),(3,1,false),(4,1,false)])⟩)]
 F:=[(3,81),(6,82),(7,84),(8,2),(9,83),(10,85),(11,86),(12,87),(24,111),(25,3),(26,112),(27,113),(28,114),(43,128),(44,129),(45,5),(46,130),(47,131),(48,6),(49,132),(50,133),(51,134),(69,136),(70,137),(71,138),(72,7),(73,139),(74,140),(87,141),(88,142)]
 eqT:=[]
 adds:=[]
def F:Nat→Option RF:=lk (tI11++tI15++tLAccount++tLBook++tLFin++tLHand++tLHandMsg++tLShard++tS01d++tS15++tWHandDone)
def tab:List (Nat×FuncId×RF):=[(81,3,r81),(82,6,r82),(84,7,r84),(2,8,r2),(83,9,r83),(85,10,r85),(86,11,r86),(87,12,r87),(111,24,r111),(3,25,r3),(112,26,r112),(113,27,r113),(114,28,r114),(128,43,r128),(129,44,r129),(5,45,r5),(130,46,r130),(131,47,r131),(6,48,r6),(132,49,r132),(133,50,r133),(134,51,r134),(136,69,r136),(137,70,r137),(138,71,r138),(7,72,r7),(139,73,r139),(140,74,r140),(141,87,r141),(142,88,r142)]
def tags:List (Nat×TypeId×Nat):=[(9,101,2),(10,103,2),(11,109,5),(12,115,5)]
theorem ok81:FnOk Try.prog c F (81,3,r81):=⟨Try.f3,[],[[8,0,2,1,3,4,5,6,7,9,10],[0,1,2,3,4,5,6,8,9,7,10],[],[],[7,0,2,1,3,4,5,6,8,9],[0,1,2,3,4,5,7,8,6,9],[],[],[0,1,2,3,4],[0,1,2,3,4],[],[]],Try.func3,by kernel_rfl,by kernel_rfl,by kernel_rfl⟩
theorem ok82:FnOk Try.prog c F (82,6,r82):=⟨Try.f6,[],[],Try.func6,by kernel_rfl,by kernel_rfl,by kernel_rfl⟩
theorem ok84:FnOk Try.prog c F (84,7,r84):=⟨Try.f7,[],[],Try.func7,by kernel_rfl,by kernel_rfl,by kernel_rfl⟩
theorem ok2:FnOk Try.prog c F (2,8,r2):=⟨Try.f8,[],[],Try.func8,by kernel_rfl,by kernel_rfl,by kernel_rfl⟩
theorem ok83:FnOk Try.prog c F (83,9,r83):=⟨Try.f9,[],[],Try.func9,by kernel_rfl,by kernel_rfl,by kernel_rfl⟩
theorem ok85:FnOk Try.prog c F (85,10,r85):=⟨Try.f10,[],[],Try.func10,by kernel_rfl,by kernel_rfl,by kernel_rfl⟩
theorem ok86:FnOk Try.prog c F (86,11,r86):=⟨Try.f11,[],[],Try.func11,by kernel_rfl,by kernel_rfl,by kernel_rfl⟩
theorem ok87:FnOk Try.prog c F (87,12,r87):=⟨Try.f12,[],[],Try.func12,by kernel_rfl,by kernel_rfl,by kernel_rfl⟩
theorem ok111:FnOk Try.prog c F (111,24,r111):=⟨Try.f24,[],[],Try.func24,by kernel_rfl,by kernel_rfl,by kernel_rfl⟩
theorem ok3:FnOk Try.prog c F (3,25,r3):=⟨Try.f25,[],[],Try.func25,by kernel_rfl,by kernel_rfl,by kernel_rfl⟩
theorem ok112:FnOk Try.prog c F (112,26,r112):=⟨Try.f26,[],[],Try.func26,by kernel_rfl,by kernel_rfl,by kernel_rfl⟩
theorem ok113:FnOk Try.prog c F (113,27,r113):=⟨Try.f27,[],[[0,1,2,3,4,5,6,7,8,9,10,11,12,13,14,15,16,17,18,19,20,21,22,23,24,25,26,27,28],[0,1,2,3,4,5,6,7,8,9,10,11,12,13,14,15,16,17,18,19,20,21,22,23,24,25,26,27,28],[],[]],Try.func27,by kernel_rfl,by kernel_rfl,by kernel_rfl⟩
theorem ok114:FnOk Try.prog c F (114,28,r114):=⟨Try.f28,[],[],Try.func28,by kernel_rfl,by kernel_rfl,by kernel_rfl⟩
theorem ok128:FnOk Try.prog c F (128,43,r128):=⟨Try.f43,[],[],Try.func43,by kernel_rfl,by kernel_rfl,by kernel_rfl⟩
theorem ok129:FnOk Try.prog c F (129,44,r129):=⟨Try.f44,[],[],Try.func44,by kernel_rfl,by kernel_rfl,by kernel_rfl⟩
theorem ok5:FnOk Try.prog c F (5,45,r5):=⟨Try.f45,[],[],Try.func45,by kernel_rfl,by kernel_rfl,by kernel_rfl⟩
theorem ok130:FnOk Try.prog c F (130,46,r130):=⟨Try.f46,[],[],Try.func46,by kernel_rfl,by kernel_rfl,by kernel_rfl⟩
theorem ok131:FnOk Try.prog c F (131,47,r131):=⟨Try.f47,[],[[0,3,4]],Try.func47,by kernel_rfl,by kernel_rfl,by kernel_rfl⟩
theorem ok6:FnOk Try.prog c F (6,48,r6):=⟨Try.f48,[],[],Try.func48,by kernel_rfl,by kernel_rfl,by kernel_rfl⟩
theorem ok132:FnOk Try.prog c F (132,49,r132):=⟨Try.f49,[],[],Try.func49,by kernel_rfl,by kernel_rfl,by kernel_rfl⟩
theorem ok133:FnOk Try.prog c F (133,50,r133):=⟨Try.f50,[],[],Try.func50,by kernel_rfl,by kernel_rfl,by kernel_rfl⟩
theorem ok134:FnOk Try.prog c F (134,51,r134):=⟨Try.f51,[],[[0,1,5],[0,1,2,4,5,6,3,7,8,9],[0,1,2,3,4,5,6,7,8,9],[],[]],Try.func51,by kernel_rfl,by kernel_rfl,by kernel_rfl⟩
theorem ok136:FnOk Try.prog c F (136,69,r136):=⟨Try.f69,[],[],Try.func69,by kernel_rfl,by kernel_rfl,by kernel_rfl⟩
theorem ok137:FnOk Try.prog c F (137,70,r137):=⟨Try.f70,[],[[0,3,4]],Try.func70,by kernel_rfl,by kernel_rfl,by kernel_rfl⟩
theorem ok138:FnOk Try.prog c F (138,71,r138):=⟨Try.f71,[],[],Try.func71,by kernel_rfl,by kernel_rfl,by kernel_rfl⟩
theorem ok7:FnOk Try.prog c F (7,72,r7):=⟨Try.f72,[],[],Try.func72,by kernel_rfl,by kernel_rfl,by kernel_rfl⟩
theorem ok139:FnOk Try.prog c F (139,73,r139):=⟨Try.f73,[],[[0,1,5],[0,1,2,4,5,6,3,7,8,9],[0,1,2,3,4,5,6,7,8,9],[],[]],Try.func73,by kernel_rfl,by kernel_rfl,by kernel_rfl⟩
theorem ok140:FnOk Try.prog c F (140,74,r140):=⟨Try.f74,[],[],Try.func74,by kernel_rfl,by kernel_rfl,by kernel_rfl⟩
theorem ok141:FnOk Try.prog c F (141,87,r141):=⟨Try.f87,[],[],Try.func87,by kernel_rfl,by kernel_rfl,by kernel_rfl⟩
theorem ok142:FnOk Try.prog c F (142,88,r142):=⟨Try.f88,[],[],Try.func88,by kernel_rfl,by kernel_rfl,by kernel_rfl⟩
theorem okT:(c.T.all fun x=>x.2.okB Try.prog (mkCfg Try.prog tab tags).ET (mkCfg Try.prog tab tags).SZ x.1)=true:=by kernel_rfl
theorem okF:(c.F.all fun x=>decide ((lk tab x.2).map (·.1)=some x.1))=true:=by kernel_rfl
theorem okTab:AllT (FnOk Try.prog c F) tab:=⟨ok81,ok82,ok84,ok2,ok83,ok85,ok86,ok87,ok111,ok3,ok112,ok113,ok114,ok128,ok129,ok5,ok130,ok131,ok6,ok132,ok133,ok134,ok136,ok137,ok138,ok7,ok139,ok140,ok141,ok142,trivial⟩
theorem prog (O:Nat):ProgOk ((mkCfg Try.prog tab tags).at O) c F (fun _ _ _=>none):=
 mkProg okT okF okTab ⟨⟩ trivial O
theorem inI11:AllT (fun x=>F x.1=some x.2) tI11:=⟨rfl,trivial⟩
theorem inI15:AllT (fun x=>F x.1=some x.2) tI15:=⟨rfl,rfl,rfl,rfl,trivial⟩
theorem inLAccount:AllT (fun x=>F x.1=some x.2) tLAccount:=⟨rfl,rfl,rfl,rfl,rfl,trivial⟩
theorem inLBook:AllT (fun x=>F x.1=some x.2) tLBook:=⟨rfl,rfl,rfl,trivial⟩
theorem inLFin:AllT (fun x=>F x.1=some x.2) tLFin:=⟨rfl,rfl,rfl,rfl,rfl,trivial⟩
theorem inLHand:AllT (fun x=>F x.1=some x.2) tLHand:=⟨rfl,rfl,trivial⟩
theorem inLHandMsg:AllT (fun x=>F x.1=some x.2) tLHandMsg:=⟨rfl,rfl,rfl,trivial⟩
theorem inLShard:AllT (fun x=>F x.1=some x.2) tLShard:=⟨rfl,rfl,rfl,trivial⟩
theorem inS01d:AllT (fun x=>F x.1=some x.2) tS01d:=⟨rfl,trivial⟩
theorem inS15:AllT (fun x=>F x.1=some x.2) tS15:=⟨rfl,rfl,trivial⟩
theorem inWHandDone:AllT (fun x=>F x.1=some x.2) tWHandDone:=⟨rfl,trivial⟩
end Go.Proofs.Yteagcdhkobeanaa.A.ExactHandDone
namespace Go.Proofs.Yteagcdhkobeanaa.A
open Go
set_option linter.unusedSimpArgs false
set_option linter.unusedVariables false
set_option maxHeartbeats 2000000 in
theorem law_ExactHandDone {F:Nat→Option RF} {Z:CallF} (hI11:Has F tI11) (hI15:Has F tI15) (hLAccount:Has F tLAccount) (hLBook:Has F tLBook) (hLFin:Has F tLFin) (hLHand:Has F tLHand) (hLHandMsg:Has F tLHandMsg) (hLShard:Has F tLShard) (hS01d:Has F tS01d) (hS15:Has F tS15) (hWHandDone:Has F tWHandDone) (h:Heap) (avs:List V) (hfl:h.floor=h.next) (w:ArgsWf h 8 [shHand,shHandMsg] avs): ∃h',call F Z 81 avs h=some (.c (.bool true),h'):=by
 obtain ⟨hdc,_,rfl,hdw,w1⟩:=ArgsWf.struct w
 obtain ⟨hd,rfl,hdok⟩:=Wf.isHand hdw
 obtain ⟨mc,_,rfl,mw,w2⟩:=ArgsWf.struct w1
 obtain ⟨m,mp,mv,mok⟩:=Wf.isHandMsg mw
 obtain ⟨ml1,ml2,ml3⟩:=HandMsg.lenL mv
 obtain rfl:=w2.nil
 have f0:h.floor≤h.next:=by omega
 rw[call_run F Z (hWHandDone.lk (g:=81) rfl) _ _ rfl]
 obtain ⟨l0,s0,s0l,s0k⟩:=szHandMsg_c hLHandMsg hLShard hLBook hLAccount hLFin (Z:=Z) mv 1048576 (by omega) (by omega)
 simp only[rn,RO.dst,lk,drop,Nat.reduceBEq,Nat.reduceAdd,Nat.reduceLeDiff,↓reduceIte,reduceCtorEq,s0,toHand_e hLHand,Hand.len,Hand.tak,Hand.drp,eqHand_run hLHand,ml1,ml2,ml3]
 by_cases hn0:l0<0
 ·simp only[rn,RO.dst,lk,drop,Nat.reduceBEq,Nat.reduceAdd,Nat.reduceLeDiff,↓reduceIte,reduceCtorEq,hn0]
  exact ⟨_,rfl⟩
 have sm0:=s0k (by omega)
 have flr:h.floor=h.next:=hfl
 obtain ⟨y1,hq1,p1,e1,oq1,vq1,qq1⟩:=toHandMsg_c hLHandMsg hLShard hLBook hLAccount hLFin (Z:=Z) (h:=⟨h.next,h.next,h.get⟩) (Nat.le_refl _) (HandMsg.okL.up mv _) sm0
 obtain ⟨h1,mq1⟩: ∃g,Heap.mk hq1.next h.floor hq1.get=g:=⟨_,rfl⟩
 have o1:On h h1:=by rw[←mq1];exact ⟨⟨oq1.ext.1,oq1.ext.2⟩,rfl⟩
 have v1:=HandMsg.okI.up vq1 h.floor
 rw[mq1] at v1
 have q1:Fre h p1:=⟨qq1.lo,qq1.nd⟩
 replace mv:=HandMsg.okL.on mv o1
 have n1:=o1.ext.1
 have g1:=o1.fl
 have f1:=o1.le f0
 obtain ⟨vl1,vt1,vd1⟩:=HandMsg.lenI v1
 obtain ⟨hq2,e2,oq2⟩:=sHandDone_c hS01d hS15 (Z:=Z) (h:=⟨h1.next,h1.next,h1.get⟩) (Nat.le_refl _) hd (HandMsg.okI.up v1 _)
 obtain ⟨h2,mq2⟩: ∃g,Heap.mk hq2.next h1.floor hq2.get=g:=⟨_,rfl⟩
 have o2:On h1 h2:=by rw[←mq2];exact ⟨⟨oq2.ext.1,oq2.ext.2⟩,rfl⟩
 replace mv:=HandMsg.okL.on mv o2
 replace v1:=HandMsg.okI.on v1 o2
 have n2:=o2.ext.1
 have g2:=o2.fl
 have f2:=o2.le f1
 obtain ⟨y3,h3,p3,e3,o3,v3,q3⟩:=toHandMsg_c hLHandMsg hLShard hLBook hLAccount hLFin (Z:=Z) f2 mv sm0
 replace mv:=HandMsg.okL.on mv o3
 replace v1:=HandMsg.okI.on v1 o3
 have n3:=o3.ext.1
 have g3:=o3.fl
 have f3:=o3.le f2
 obtain ⟨vl3,vt3,vd3⟩:=HandMsg.lenI v3
 obtain ⟨hq4,e4,oq4⟩:=HandDone_c hI11 hI15 (Z:=Z) (h:=⟨h3.next,h3.next,h3.get⟩) (Nat.le_refl _) hd (HandMsg.okI.up v3 _)
 obtain ⟨h4,mq4⟩: ∃g,Heap.mk hq4.next h3.floor hq4.get=g:=⟨_,rfl⟩
 have o4:On h3 h4:=by rw[←mq4];exact ⟨⟨oq4.ext.1,oq4.ext.2⟩,rfl⟩
 replace mv:=HandMsg.okL.on mv o4
 replace v1:=HandMsg.okI.on v1 o4
 replace v3:=HandMsg.okI.on v3 o4
 have n4:=o4.ext.1
 have g4:=o4.fl
 have f4:=o4.le f3
 obtain ⟨y5,hq5,p5,e5,oq5,vq5,qq5⟩:=toHandMsg_c hLHandMsg hLShard hLBook hLAccount hLFin (Z:=Z) (h:=⟨h4.next,h4.next,h4.get⟩) (Nat.le_refl _) (HandMsg.okL.up mv _) sm0
 obtain ⟨h5,mq5⟩: ∃g,Heap.mk hq5.next h4.floor hq5.get=g:=⟨_,rfl⟩
 have o5:On h4 h5:=by rw[←mq5];exact ⟨⟨oq5.ext.1,oq5.ext.2⟩,rfl⟩
 have v5:=HandMsg.okI.up vq5 h4.floor
 rw[mq5] at v5
 have q5:Fre h4 p5:=⟨qq5.lo,qq5.nd⟩
 replace mv:=HandMsg.okL.on mv o5
 replace v1:=HandMsg.okI.on v1 o5
 replace v3:=HandMsg.okI.on v3 o5
 have n5:=o5.ext.1
 have g5:=o5.fl
 have f5:=o5.le f4
 obtain ⟨vl5,vt5,vd5⟩:=HandMsg.lenI v5
 have c1:=eqHandMsg_r hLHandMsg hLShard hLBook hLAccount hLFin (Z:=Z) (h:=⟨h5.next,h5.next,h5.get⟩) (HandMsg.okI.up v3 _) (HandMsg.okI.up v5 _)
 simp only[rn,RO.dst,lk,drop,Nat.reduceBEq,Nat.reduceAdd,Nat.reduceLeDiff,↓reduceIte,reduceCtorEq,hn0,toHand_e hLHand,Hand.len,Hand.tak,Hand.drp,eqHand_run hLHand,ml1,ml2,ml3,mq1,e1,vl1,vt1,vd1,mq2,e2,e3,vl3,vt3,vd3,mq4,e4,mq5,e5,vl5,vt5,vd5,c1]
 exact ⟨_,rfl⟩
end Go.Proofs.Yteagcdhkobeanaa.A
namespace Go.Proofs.Yteagcdhkobeanaa.A.ExactHandDone
open Go Go.ChangeShapes Go.WideShapes Go.ChangeAt Go.RowKit
theorem own:ownKnob Try.prog.godebug=none:=by kernel_rfl
set_option maxRecDepth 100000 in
theorem lifted (os:Os) (started:os.Started) (H:Type) (enc:TypeId×Value→H):
 ReturnsInHanded {} Try.checked os 3 .any (Rows.fnExactHandDoneSpec.pre6 enc Try.prog Try.f3 Rows.fnExactHandDoneRow.domain false) (Rows.fnExactHandDoneSpec.post enc Try.prog Try.f3 false true false false):=by
 refine returnsInHanded_of_change_sized (C:=Try.checked) own started (by kernel_rfl) Try.func3
  (ChangeSpec.witness6 (enc:=enc) (C:=Try.checked) false ⟨#[],#[.agg #[.int .u64 0,.int .i64 0,.int .i64 0,.int .i64 0,.int .i64 0],.agg #[.int .i64 0,.int .u64 0,.int .i64 0,.int .i64 0,.int .u64 0,.int .u64 0,.int .i64 0,.int .i64 0,.slice none 0 0,.slice none 0 0]],[]⟩ 8 (by kernel_rfl) (by kernel_rfl) (by kernel_rfl) (by kernel_rfl)) ?_
 intro W base args ds gs before hval hW _ _ _
 have hW':=hW
 obtain ⟨p,q,hA,hV,rfl,hfz,hnd⟩:=hW
 obtain ⟨rfl,rfl⟩:=trodVars_none hV
 have r0:DataW.TrodAll enc Try.prog W 0 (fun _=>true) true [24,32] args.toList ds p:=hA
 obtain ⟨_,_,d0,_,_,_,_,rfl,_,_,r1⟩:=trodAll_cons r0
 obtain ⟨_,_,d1,_,_,_,_,rfl,_,_,r2⟩:=trodAll_cons r1
 obtain ⟨_,rfl,_⟩:=trodAll_nil r2
 refine (law_calls (ts:=[24,32]) (ss:=[shHand,shHandMsg]) prog (show (mkCfg Try.prog tab tags).G 81=some 3 from by kernel_rfl) ⟨show shIs Try.prog (mkCfg Try.prog tab tags).ET (mkCfg Try.prog tab tags).SZ 8 24 shHand=true from by kernel_rfl,show shIs Try.prog (mkCfg Try.prog tab tags).ET (mkCfg Try.prog tab tags).SZ 8 32 shHandMsg=true from by kernel_rfl,trivial⟩ (law_ExactHandDone inI11 inI15 inLAccount inLBook inLFin inLHand inLHandMsg inLShard inS01d inS15 inWHandDone) (fun j t v h1=>hval j t v (by rw[Try.params3];exact (List.getElem?_toArray ..).trans h1)) hA).mono fun e W' ⟨he,bel⟩=> ?_
 subst he
 exact ⟨_,rfl,_,_,_,[],_,[],hW',trodAll_mk1 (shut_bool Try.underlying4 _),trodAll_below (by kernel_rfl) bel _ _ _ _ (by kernel_rfl) hA hA.lt,rfl,bel.frame _,fun h=>by cases h⟩
theorem over:Rows.fnExactHandDoneRow.holds Try.pinned (OpenSpec.ofChange Rows.fnExactHandDoneSpec):=
 OpenClaim.holds_of_wide 3 Try.f3 rfl rfl rfl rfl rfl rfl rfl ⟨rfl,rfl,rfl,rfl,rfl⟩ rfl rfl rfl rfl rfl (by kernel_rfl) Try.func3 (by kernel_rfl)
  (of_decide_eq_true (by kernel_rfl)) (by unfold Func.isWrapper;first | (rw[if_pos (by decide+kernel)];kernel_rfl) | (rw[if_neg (by decide+kernel)];exact ⟨rfl,rfl⟩))
  (fun os started H enc _=>lifted os started H enc)
end Go.Proofs.Yteagcdhkobeanaa.A.ExactHandDone
namespace Go.Proofs.Yteagcdhkobeanaa
/-- The row. -/
theorem fnExactHandDone_holds:Rows.FnExactHandDoneSaid:=A.ExactHandDone.over
#print axioms fnExactHandDone_holds
end Go.Proofs.Yteagcdhkobeanaa
