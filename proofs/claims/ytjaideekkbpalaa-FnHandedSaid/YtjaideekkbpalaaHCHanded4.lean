/- The functions that the statement reaches, part 4: bodies and what they compute. No condition. -/
import Derived.Test.YtjaideekkbpalaaHCHanded3
import Derived.Test.YtjaideekkbpalaaD
namespace Go.Proofs.Ytjaideekkbpalaa.A
open Go
set_option linter.unusedSimpArgs false
set_option linter.unusedVariables false
structure Ready (h:Hand) (s t:Store) (k:Nat) (hk:k<s.shards.length):Prop where
 g:SGood s
 gr:s.group=1
 tt:t=Store.void 2 t.seen
 ts:0≤t.seen
 lo:h.lo=s.shards[k].lo
 fr:h.from_=1
 to:h.to=2
 ph:h.phase=0
 e1:s.seen<h.epoch
 e2:t.seen≤h.epoch
 e3:h.epoch≤900000
def fz (h:Hand) (s:Store):Store:=(freezeShard s h.lo h.epoch).1
def Shard.moved (x:Shard) (e:Int):Shard:={x with state:=0,epoch:=e}
def tk (h:Hand) (x:Shard):Store:=⟨2,h.epoch+1,[x.moved (h.epoch+1)]⟩
def hm0 (h:Hand):HandMsg:=⟨0,h.lo,1,h.epoch,Shard.none_⟩
def hm1 (h:Hand) (x:Shard):HandMsg:=⟨1,h.lo,2,h.epoch+1,x.cold h.epoch⟩
def hm2 (h:Hand):HandMsg:=⟨2,h.lo,1,h.epoch,Shard.none_⟩
theorem freeze_again {s:Store} {lo e:Int} (h:e≤s.seen):freezeShard s lo e=(s,false):=by
 have hn:s.next e=false:=by
  cases hc:s.next e with
  | false=>rfl
  | true=>have:=(Store.next_iff s e).1 hc;omega
 unfold freezeShard
 rw[hn]
 simp
section
variable {h:Hand} {s t:Store} {k:Nat} {hk:k<s.shards.length}
theorem Ready.okp (r:Ready h s t k hk) {p:Int} (hp:0≤p∧p≤3):(h.at_ p).ok=true:=by
 have h1:=r.e1
 have h2:=r.e3
 have h3:=r.g.good.sn
 simp only[Hand.ok,handOk,inR,Hand.at_,r.fr,r.to]
 simp only[Bool.and_eq_true,decide_eq_true_eq]
 refine ⟨⟨⟨⟨?_,?_⟩,?_⟩,?_⟩,?_⟩
 all_goals first | decide | omega
theorem Ready.self (r:Ready h s t k hk):h.at_ 0=h:=by
 obtain ⟨l,f,o,e,p⟩:=h
 have:=r.ph
 simp only at this
 subst this
 rfl
theorem Ready.froze (r:Ready h s t k hk) (ha:s.shards[k].state=0):Froze s (fz h s) k hk h.epoch:=by
 unfold fz
 rw[r.lo]
 exact freeze_is r.g.good hk ha ⟨r.e1,by have:=r.e3;omega⟩
theorem Ready.fgr (r:Ready h s t k hk) (ha:s.shards[k].state=0):(fz h s).group=1:=by
 have hn:s.next h.epoch=true:=(Store.next_iff _ _).2 ⟨r.g.good,r.e1,by have:=r.e3;omega⟩
 unfold fz freezeShard
 rw[hn,r.lo,r.g.good.findAt_is hk rfl ha]
 simp[Store.frozen,Store.renew,r.gr]
theorem Ready.rail (r:Ready h s t k hk) (ha:s.shards[k].state=0):Rail h s (fz h s) ((fz h s).without k) t (tk h s.shards[k]) (hm0 h) (hm1 h s.shards[k]) (hm2 h):=by
 have w:=r.froze ha
 have wg:=r.fgr ha
 have gx:=(r.g.good.sh _ (List.getElem_mem hk)).1
 have he1:=r.e1
 have he3:=r.e3
 have hsn:=r.g.good.sn
 have k0:=r.okp (p:=0) (by omega)
 have k1:=r.okp (p:=1) (by omega)
 have k2:=r.okp (p:=2) (by omega)
 have hwg:((fz h s).without k).group=1:=wg
 have hws:((fz h s).without k).seen=h.epoch:=w.seen
 have hfz:freezeShard s h.lo h.epoch=(fz h s,true):=by rw[r.lo];exact w.ok
 have hret:retireShard (fz h s) h.lo h.epoch=((fz h s).without k,true):=by rw[r.lo];exact w.retire
 have hret2:retireShard ((fz h s).without k) h.lo h.epoch=((fz h s).without k,false):=by rw[r.lo];exact w.twice _
 have hexp:exportShard (fz h s) h.lo=(s.shards[k].cold h.epoch,true):=by rw[r.lo];exact w.exports
 have hep:(s.shards[k].cold h.epoch).epoch=h.epoch:=rfl
 have hti:installShard t (s.shards[k].cold h.epoch) (h.epoch+1)=(tk h s.shards[k],true):=by
  rw[r.tt]
  exact install_void (by omega) gx ⟨r.ts,r.e2⟩ (by omega)
 have htg:t.group=2:=by rw[r.tt];rfl
 exact {
  s0:=by
   simp only[handSend,k0]
   simp[Hand.at_,r.fr,hm0]
  s1:=by
   simp only[handSend,k1]
   simp only[Hand.at_,hexp,hep,r.to,hm1]
   simp
  s2:=by
   simp only[handSend,k2]
   simp[Hand.at_,r.fr,hm2]
  s3:=fun a=>by
   simp only[handSend,Hand.at_]
   simp
  t0:=by simp[handTake,hm0,r.gr,hfz]
  t01:=by simp[handTake,hm0,wg,freeze_again (Int.le_of_eq w.seen.symm)]
  t03:=by simp[handTake,hm0,hwg,freeze_again (Int.le_of_eq hws.symm)]
  t1:=by simp[handTake,hm1,htg,hti]
  t12:=by
   have hs:h.epoch+1≤(tk h s.shards[k]).seen:=Int.le_refl _
   have hg:(tk h s.shards[k]).group=2:=rfl
   simp[handTake,hm1,hg,install_again hs]
  t2:=by simp[handTake,hm2,wg,hret]
  t23:=by simp[handTake,hm2,hwg,hret2]
  to0:=by simp[hm0,r.fr]
  to1:=by simp[hm1,r.fr]
  to2:=by simp[hm2,r.fr]
  d0:=by
   unfold Hand.done
   rw[k0]
   simp[Hand.at_,hm0,Hand.sends]
  d1:=by
   unfold Hand.done
   rw[k1]
   simp[Hand.at_,hm1,Hand.sends]
  d2:=by
   unfold Hand.done
   rw[k2]
   simp[Hand.at_,hm2,Hand.sends]}
theorem Ready.stay (r:Ready h s t k hk) (ha:s.shards[k].state≠0):handSend h s=(hm0 h,true)∧((hm0 h).to==h.from_)=true∧handTake s (hm0 h)=(s,false):=by
 have k0:=r.okp (p:=0) (by omega)
 rw[r.self] at k0
 refine ⟨?_,by simp[hm0,r.fr],?_⟩
 ·simp only[handSend,k0,r.ph]
  simp[hm0,r.fr]
 ·have hf:=freeze_not r.g.good hk ha h.epoch
  rw[←r.lo] at hf
  simp[handTake,hm0,r.gr,hf]
inductive Left (h:Hand) (s t:Store) (k:Nat) (hk:k<s.shards.length):Hand→Store→Store→Prop
 | l0:Left h s t k hk (h.at_ 0) s t
 | l1:s.shards[k].state=0→Left h s t k hk (h.at_ 1) (fz h s) t
 | l2:s.shards[k].state=0→Left h s t k hk (h.at_ 2) (fz h s) (tk h s.shards[k])
 | l3:s.shards[k].state=0→Left h s t k hk (h.at_ 3) ((fz h s).without k) (tk h s.shards[k])
theorem Ready.tgood (r:Ready h s t k hk):SGood t:=by rw[r.tt];exact Store.void_good (by omega) ⟨r.ts,by have:=r.e2;have:=r.e3;omega⟩
theorem Ready.play (r:Ready h s t k hk) (ops:List Int) (hl:ops.length≤200):playHand h s t ops=((ops.foldl Play.step ⟨h,s,t,[]⟩).hd,(ops.foldl Play.step ⟨h,s,t,[]⟩).a,(ops.foldl Play.step ⟨h,s,t,[]⟩).b):=by
 have k0:=r.okp (p:=0) (by omega)
 rw[r.self] at k0
 have g1:=(Store.good_iff _).2 r.g.good
 have g2:=(Store.good_iff _).2 r.tgood.good
 have htg:t.group=2:=by rw[r.tt];rfl
 unfold playHand
 rw[k0,g1,g2,r.gr,htg,r.fr,r.to,decide_eq_true hl]
 rfl
theorem Ready.left (r:Ready h s t k hk) (ops:List Int) (hl:ops.length≤200):Left h s t k hk (playHand h s t ops).1 (playHand h s t ops).2.1 (playHand h s t ops).2.2:=by
 rw[r.play ops hl]
 by_cases ha:s.shards[k].state=0
 ·have hw:=Stage.plays (r.rail ha) ops (p:=⟨h.at_ 0,s,t,[]⟩) (.p0 _ fun m hm=>by cases hm)
  rw[r.self] at hw
  generalize ops.foldl Play.step ⟨h,s,t,[]⟩=p at hw ⊢
  cases hw with
  | p0=>exact .l0
  | p1=>exact .l1 ha
  | p2=>exact .l2 ha
  | p3=>exact .l3 ha
 ·obtain ⟨h1,h2,h3⟩:=r.stay ha
  obtain ⟨net,hn⟩:=stay_plays (b:=t) h1 h2 h3 ops (net:=[]) (fun m hm=>by cases hm)
  rw[hn]
  simp only
  have:=Left.l0 (h:=h) (s:=s) (t:=t) (k:=k) (hk:=hk)
  rw[r.self] at this
  exact this
theorem Ready.xgood (r:Ready h s t k hk):(s.shards[k]).Good:=(r.g.good.sh _ (List.getElem_mem hk)).1
theorem Ready.xok (r:Ready h s t k hk):(s.shards[k]).Ok:=r.g.ok.shards _ (List.getElem_mem hk)
theorem Ready.tkgood (r:Ready h s t k hk):SGood (tk h s.shards[k]):=by
 have h1:=r.e1
 have h3:=r.e3
 have h4:=r.g.good.sn
 have gx:=r.xgood
 have ox:=r.xok
 refine ⟨⟨by show (0:Int)≤2∧(2:Int)≤99;omega,by show 0≤h.epoch+1∧h.epoch+1≤_;omega,by simp[tk],fun x hx=> ?_,by simp[tk]⟩,⟨by show _≤(2:Int)∧(2:Int)≤_;omega,by show _≤h.epoch+1∧h.epoch+1≤_;omega,fun x hx=> ?_⟩⟩
 ·simp only[tk,List.mem_singleton] at hx
  subst hx
  exact ⟨⟨gx.lh,.inl rfl,by show 1≤h.epoch+1∧h.epoch+1≤_;omega,gx.srt,gx.fine,gx.bl,gx.fl,gx.acc,gx.fs,gx.fin⟩,Int.le_refl _⟩
 ·simp only[tk,List.mem_singleton] at hx
  subst hx
  exact ⟨ox.lo,ox.hi,by simp[Shard.moved],by show _≤h.epoch+1∧h.epoch+1≤_;omega,ox.book,ox.finished⟩
theorem Ready.fgood (r:Ready h s t k hk):SGood (fz h s):=r.g.freeze h.lo h.epoch
theorem Ready.regood (r:Ready h s t k hk) (ha:s.shards[k].state=0):SGood ((fz h s).without k):=by
 have w:=r.froze ha
 have h1:=r.fgood.retire h.lo h.epoch
 have h2:retireShard (fz h s) h.lo h.epoch=((fz h s).without k,true):=by rw[r.lo];exact w.retire
 rw[h2] at h1
 exact h1
theorem Left.good (r:Ready h s t k hk) {h':Hand} {a b:Store} (w:Left h s t k hk h' a b):h'.ok=true∧0≤h'.phase∧SGood a∧SGood b:=by
 cases w with
 | l0=>exact ⟨r.okp (by omega),Int.le_refl 0,r.g,r.tgood⟩
 | l1 ha=>exact ⟨r.okp (by omega),by show (0:Int)≤1;omega,r.fgood,r.tgood⟩
 | l2 ha=>exact ⟨r.okp (by omega),by show (0:Int)≤2;omega,r.fgood,r.tkgood⟩
 | l3 ha=>exact ⟨r.okp (by omega),by show (0:Int)≤3;omega,r.regood ha,r.tkgood⟩
theorem Store.findId_none {s:Store} {a:Int} (h: ∀x,x∈s.shards→ ¬(x.lo≤a∧a≤x.hi)):findId s.shards a= -1:=by
 refine findI_none fun x hx=> ?_
 have:=h x hx
 simp only[Bool.and_eq_false_iff,decide_eq_false_iff_not]
 omega
theorem tk_holds (h:Hand) (x:Shard) (id:Int):(tk h x).holds id=decide (x.lo≤id∧id≤x.hi):=by
 by_cases hc:x.lo≤id∧id≤x.hi
 ·have:findId (tk h x).shards id=((0:Nat):Int):=findI_is (i:=0) (by simp[tk]) (by simp[tk,Shard.moved,hc]) fun j hj _=>by simp[tk] at hj;omega
  rw[holds_at this,decide_eq_true hc]
  rfl
 ·have:findId (tk h x).shards id= -1:=Store.findId_none fun y hy=>by
   simp only[tk,List.mem_singleton] at hy
   subst hy
   exact hc
  rw[holds_no this,decide_eq_false hc]
theorem Froze.noth {s f:Store} {k:Nat} {hk:k<s.shards.length} {e:Int} (w:Froze s f k hk e) {id:Int} (h:s.shards[k].lo≤id∧id≤s.shards[k].hi):f.holds id=false:=by
 have:findId f.shards id=(k:Nat):=w.good.findId_is w.hk (by rw[w.at_];exact h)
 rw[holds_at this,Shard.at_get w.hk,w.at_]
 rfl
theorem Froze.gonew {s f:Store} {k:Nat} {hk:k<s.shards.length} {e:Int} (w:Froze s f k hk e) {id:Int} (h:s.shards[k].lo≤id∧id≤s.shards[k].hi):findId (f.without k).shards id= -1:=by
 refine Store.findId_none fun x hx hc=> ?_
 obtain ⟨j,hj,hn,rfl⟩:=erase_at f.shards k w.hk hx
 exact hn (w.good.one_of hj w.hk hc (by rw[w.at_];exact h))
theorem holders_two {a b:Store} (ga:a.good=true) (gb:b.good=true) (id:Int):holders [a,b] id=(bif a.holds id then [0] else [])++(bif b.holds id then [1] else []):=by
 have h0:areStores [a,b]=true:=by simp[areStores,ga,gb]
 unfold holders
 rw[h0]
 obtain ⟨u,hu⟩: ∃u,a.holds id=u:=⟨_,rfl⟩
 obtain ⟨v,hv⟩: ∃v,b.holds id=v:=⟨_,rfl⟩
 have e0:holdAt [a,b] id 0=u:=hu
 have e1:holdAt [a,b] id 1=v:=hv
 simp only[cond_true,List.length_cons,List.length_nil,holdersUp,e0,e1,hu,hv]
 cases u<;>cases v<;>rfl
theorem Left.one (r:Ready h s t k hk) {h':Hand} {a b:Store} (w:Left h s t k hk h' a b) (id:Int):((holders [a,b] id).length:Int)≤1:=by
 obtain ⟨_,_,ga,gb⟩:=w.good r
 rw[holders_two ((Store.good_iff _).2 ga.good) ((Store.good_iff _).2 gb.good)]
 have key:a.holds id=false∨b.holds id=false:=by
  cases w with
  | l0=>right;rw[r.tt];rfl
  | l1 ha=>right;rw[r.tt];rfl
  | l2 ha=>
    by_cases hc:s.shards[k].lo≤id∧id≤s.shards[k].hi
    ·left;exact (r.froze ha).noth hc
    ·right;rw[tk_holds,decide_eq_false hc]
  | l3 ha=>
    by_cases hc:s.shards[k].lo≤id∧id≤s.shards[k].hi
    ·left;exact holds_no ((r.froze ha).gonew hc)
    ·right;rw[tk_holds,decide_eq_false hc]
 rcases key with h | h<;>rw[h]<;>simp only[cond_false,List.nil_append,List.append_nil]
 ·cases b.holds id<;>simp
 ·cases a.holds id<;>simp
theorem Left.over (r:Ready h s t k hk) {h':Hand} {a b:Store} (w:Left h s t k hk h' a b) (hp:h'.phase=3):holders [a,b] h.lo=[1]:=by
 obtain ⟨_,_,ga,gb⟩:=w.good r
 rw[holders_two ((Store.good_iff _).2 ga.good) ((Store.good_iff _).2 gb.good)]
 have hx:=r.xgood.lh
 have hl:=r.lo
 have hc:s.shards[k].lo≤h.lo∧h.lo≤s.shards[k].hi:=by omega
 cases w with
 | l0=>simp[Hand.at_] at hp
 | l1 ha=>simp[Hand.at_] at hp
 | l2 ha=>simp[Hand.at_] at hp
 | l3 ha=>
   rw[holds_no ((r.froze ha).gonew hc),tk_holds,decide_eq_true hc]
   rfl
theorem sumI_congr {α:Type} {f g:α→Int}: ∀{xs:List α},(∀x,x∈xs→f x=g x)→sumI f xs=sumI g xs
 | [],_=>rfl
 | x::r,h=>by simp only[sumI,h x (List.mem_cons_self ..),sumI_congr fun y hy=>h y (List.mem_cons_of_mem _ hy)]
theorem live_of {all:List Shard} {x:Shard} (h: ∀y,y∈all→x.newer y=false):liveOf all x=x.money:=by
 have:all.any x.newer=false:=List.any_eq_false.2 fun y hy=>by rw[h y hy];decide
 unfold liveOf
 rw[this]
 rfl
theorem Store.Good.still {s:Store} (g:s.Good) {x y:Shard} (hx:x∈s.shards) (hy:y∈s.shards):x.newer y=false:=by
 obtain ⟨i,hi,rfl⟩:=List.mem_iff_getElem.1 hx
 obtain ⟨j,hj,rfl⟩:=List.mem_iff_getElem.1 hy
 unfold Shard.newer
 have h1:=g.lh hi
 have h2:=g.lh hj
 rcases Nat.lt_trichotomy i j with h | h | h
 ·have:=g.lt hj h
  have: ¬s.shards[j].lo≤s.shards[i].hi:=by omega
  simp[this]
 ·subst h;simp
 ·have:=g.lt hi h
  have: ¬s.shards[i].lo≤s.shards[j].hi:=by omega
  simp[this]
theorem live_self {s:Store} (g:s.Good):sumI (liveOf s.shards) s.shards=s.money:=
 sumI_congr fun x hx=>live_of fun y hy=>g.still hx hy
theorem renew_mon {xs:List Shard} {e:Int}:sumI Shard.money (xs.map (Shard.renew e))=sumI Shard.money xs:=by
 rw[sumI_map]
 exact sumI_congr fun x _=>by unfold Shard.money;rw[Shard.renew_book]
theorem Ready.fmoney (r:Ready h s t k hk) (ha:s.shards[k].state=0):(fz h s).money=s.money:=by
 have hn:s.next h.epoch=true:=(Store.next_iff _ _).2 ⟨r.g.good,r.e1,by have:=r.e3;omega⟩
 unfold fz freezeShard
 rw[hn,r.lo,r.g.good.findAt_is hk rfl ha]
 simp only[Bool.true_and,Int.natCast_nonneg,decide_true,cond_true,Int.toNat_natCast,Store.money,Store.renew,Store.frozen,renew_mon]
 rw[sumI_set _ _ _ hk,Shard.at_get hk]
 unfold Shard.money
 simp only
 omega
theorem live_moved {L:List Shard} {x1:Shard} (h1: ∀x,x∈L→ ∀y,y∈L→x.newer y=false) (h2: ∀y,y∈L→x1.newer y=false):
 sumI (liveOf (L++[x1])) (L++[x1])=sumI (fun x=>bif x.newer x1 then 0 else x.money) L+x1.money:=by
 rw[sumI_app]
 congr 1
 ·refine sumI_congr fun x hx=> ?_
  have ha:L.any x.newer=false:=List.any_eq_false.2 fun y hy=>by rw[h1 x hx y hy];decide
  unfold liveOf
  rw[List.any_append,ha]
  simp
 ·have: ∀y,y∈L++[x1]→x1.newer y=false:=fun y hy=>by
   rcases List.mem_append.1 hy with hy | hy
   ·exact h2 y hy
   ·rw[List.mem_singleton] at hy
    subst hy
    simp[Shard.newer]
  simp only[sumI,live_of this]
  omega
theorem Left.live (r:Ready h s t k hk) {h':Hand} {a b:Store} (w:Left h s t k hk h' a b):liveTotal [a,b]=(wHi s.money,wLo s.money):=by
 obtain ⟨_,_,ga,gb⟩:=w.good r
 have h0:areStores [a,b]=true:=by simp[areStores,(Store.good_iff _).2 ga.good,(Store.good_iff _).2 gb.good]
 have hv:t.shards=[]:=by rw[r.tt];rfl
 have key:sumI (liveOf ([a,b].flatMap Store.shards)) ([a,b].flatMap Store.shards)=s.money:=by
  have hfm:[a,b].flatMap Store.shards=a.shards++b.shards:=by simp
  rw[hfm]
  cases w with
  | l0=>rw[hv,List.append_nil];exact live_self r.g.good
  | l1 ha=>rw[hv,List.append_nil,live_self r.fgood.good];exact r.fmoney ha
  | l2 ha=>
    have w:=r.froze ha
    have hkf:=w.hk
    have gf:=r.fgood.good
    rw[show (tk h s.shards[k]).shards=[(s.shards[k].moved (h.epoch+1))] from rfl,live_moved (fun x hx y hy=>gf.still hx hy) (fun y hy=>by
     have:=(gf.sh y hy).2
     have hs:(fz h s).seen=h.epoch:=w.seen
     have: ¬y.epoch>h.epoch+1:=by omega
     simp[Shard.newer,Shard.moved,this])]
    rw[←r.fmoney ha]
    have hl:=cut_list w.hk
    unfold Store.money
    rw[hl]
    simp only[sumI_app,sumI]
    have hne: ∀j,(hj:j<(fz h s).shards.length)→j≠k→((fz h s).shards[j]).newer (s.shards[k].moved (h.epoch+1))=false:=fun j hj hjk=>by
     have h1:=gf.lh hj
     have h2:=gf.lh w.hk
     have ha:=w.at_
     have hlo:((fz h s).shards[k]).lo=s.shards[k].lo:=by rw[ha];rfl
     have hhi:((fz h s).shards[k]).hi=s.shards[k].hi:=by rw[ha];rfl
     unfold Shard.newer
     rcases Nat.lt_trichotomy j k with h | h | h
     ·have:=gf.lt w.hk h
      have: ¬s.shards[k].lo≤((fz _ s).shards[j]).hi:=by omega
      simp[Shard.moved,this]
     ·exact absurd h hjk
     ·have:=gf.lt hj h
      have: ¬((fz _ s).shards[j]).lo≤s.shards[k].hi:=by omega
      simp[Shard.moved,this]
    have hyes:((fz h s).shards[k]).newer (s.shards[k].moved (h.epoch+1))=true:=by
     rw[w.at_]
     have:=r.xgood.lh
     simp[Shard.newer,Shard.cold,Shard.moved,this]
     omega
    have hmk:((fz h s).shards[k]).money=s.shards[k].money:=by rw[w.at_];rfl
    have hxm:(s.shards[k].moved (h.epoch+1)).money=s.shards[k].money:=rfl
    rw[hyes,hmk,hxm,sumI_congr (xs:=(fz h s).shards.take k) (g:=Shard.money) fun x hx=>by
     obtain ⟨j,hj,rfl⟩:=List.mem_iff_getElem.1 hx
     rw[List.length_take] at hj
     rw[List.getElem_take,hne j (by omega) (by omega)]
     rfl,sumI_congr (xs:=(fz h s).shards.drop (k+1)) (g:=Shard.money) fun x hx=>by
     obtain ⟨j,hj,rfl⟩:=List.mem_iff_getElem.1 hx
     rw[List.length_drop] at hj
     rw[List.getElem_drop,hne (k+1+j) (by omega) (by omega)]
     rfl]
    simp only[cond_true]
    omega
  | l3 ha=>
    have w:=r.froze ha
    have hkf:=w.hk
    have gf:=r.fgood.good
    have gr:=(r.regood ha).good
    rw[show (tk h s.shards[k]).shards=[(s.shards[k].moved (h.epoch+1))] from rfl,live_moved (fun x hx y hy=>gr.still hx hy) (fun y hy=>by
     have:=(gf.sh y (List.mem_of_mem_eraseIdx hy)).2
     have hs:(fz h s).seen=h.epoch:=w.seen
     have: ¬y.epoch>h.epoch+1:=by omega
     simp[Shard.newer,Shard.moved,this])]
    rw[←r.fmoney ha]
    unfold Store.money Store.without
    simp only
    rw[sumI_congr (g:=Shard.money) fun x hx=> ?_,sumI_erase _ _ _ w.hk]
    ·have hmk:((fz h s).shards[k]).money=s.shards[k].money:=by rw[w.at_];rfl
     have hxm:(s.shards[k].moved (h.epoch+1)).money=s.shards[k].money:=rfl
     omega
    ·obtain ⟨j,hj,hn,rfl⟩:=erase_at _ k w.hk hx
     have h1:=gf.lh hj
     have h2:=gf.lh w.hk
     have ha:=w.at_
     have hlo:((fz h s).shards[k]).lo=s.shards[k].lo:=by rw[ha];rfl
     have hhi:((fz h s).shards[k]).hi=s.shards[k].hi:=by rw[ha];rfl
     have:((fz h s).shards[j]).newer (s.shards[k].moved (h.epoch+1))=false:=by
      unfold Shard.newer
      rcases Nat.lt_trichotomy j k with h | h | h
      ·have:=gf.lt w.hk h
       have: ¬s.shards[k].lo≤((fz _ s).shards[j]).hi:=by omega
       simp[Shard.moved,this]
      ·exact absurd h hn
      ·have:=gf.lt hj h
       have: ¬((fz _ s).shards[j]).lo≤s.shards[k].hi:=by omega
       simp[Shard.moved,this]
     rw[this]
     rfl
 unfold liveTotal
 rw[h0,key]
 rfl
theorem Ready.first (r:Ready h s t k hk):handSend h s=(hm0 h,true)∧handHas s (hm0 h)=false∧(handTake (handTake s (hm0 h)).1 (hm0 h)).2=false∧(handTake s (hm0 h)).2=handHas (handTake s (hm0 h)).1 (hm0 h):=by
 have hno:handHas s (hm0 h)=false:=by
  have:s.atE h.lo 1 h.epoch=false:=by
   unfold Store.atE
   by_cases hc:0≤findAt s.shards h.lo 1
   ·obtain ⟨i,e1,hi,hp⟩:=findI_at (p:=fun t:Shard=>(t.lo==h.lo)&&(t.state==1)) (xs:=s.shards) hc
    have e2:findAt s.shards h.lo 1=(i:Int):=e1
    have h1:=(r.g.good.sh _ (List.getElem_mem hi)).2
    have h2:=r.e1
    have:s.shards[i].epoch≠h.epoch:=by omega
    rw[e2]
    simp[Shard.at_get hi,this]
   ·simp[hc]
  unfold handHas
  simp[hm0,this]
 by_cases ha:s.shards[k].state=0
 ·have l:=r.rail ha
  have w:=r.froze ha
  have h0:=l.s0
  rw[r.self] at h0
  refine ⟨h0,hno,?_,?_⟩
  ·rw[l.t0];simp only;rw[l.t01]
  ·rw[l.t0]
   simp only
   have:(fz h s).atE h.lo 1 h.epoch=true:=by
    unfold Store.atE
    rw[w.good.findAt_is w.hk (lo:=h.lo) (st:=1) (by rw[w.at_,r.lo];rfl) (by rw[w.at_];rfl)]
    simp[Shard.at_get w.hk,w.at_,Shard.cold]
   unfold handHas
   rw[(Store.good_iff _).2 w.good,r.fgr ha]
   simp[hm0,this]
 ·obtain ⟨h1,h2,h3⟩:=r.stay ha
  refine ⟨h1,hno,?_,?_⟩
  ·rw[h3];simp only;rw[h3]
  ·rw[h3];simp only;rw[hno]
theorem Ready.handed (r:Ready h s t k hk):playHand h s t A.handed=bif s.shards[k].state==0 then (h.at_ 3,(fz h s).without k,tk h s.shards[k]) else (h,s,t):=by
 rw[r.play A.handed (by decide)]
 by_cases ha:s.shards[k].state=0
 ·have hh:=(r.rail ha).handed
  rw[r.self] at hh
  rw[hh]
  simp[ha]
 ·obtain ⟨h1,h2,h3⟩:=r.stay ha
  obtain ⟨net,hn⟩:=stay_plays (b:=t) h1 h2 h3 A.handed (net:=[]) (fun m hm=>by cases hm)
  rw[hn]
  have:(s.shards[k].state==0)=false:=by simpa using ha
  rw[this]
  rfl
end
end Go.Proofs.Ytjaideekkbpalaa.A
namespace Go.Proofs.Ytjaideekkbpalaa.A
open Go
set_option linter.unusedSimpArgs false
set_option linter.unusedVariables false
section
variable {F:Nat→Option RF} {Z:CallF} {h0 h:Heap} {k:Nat} {x y:Cell} {code:List Int} {rows:List (List Cell)}
set_option maxHeartbeats 2000000 in
set_option maxRecDepth 8000 in
theorem l15DrawRight_c (K:KS F) (hS11:Has F tS11) (hS15:Has F tS15) (c:Cur h k x code):
 ∃(H:Hand) (s:Store) (n:Int) (i:Nat) (hi:i<s.shards.length) (cs:List Cell) (h':Heap) (fp:List Nat),
  call F Z 410 [.c (.ptr k 0 0),.c x] h=some (.tup [.agg H.enc,.agg cs,.agg [.int .i64 2,.int .i64 n,.nil]],h')∧Drawn h h' k cs s fp∧Ready H s (Store.void 2 n) i hi∧Dr k h h'∧Cur h' k x code:=by
 obtain ⟨s,cs,h1,fp,e1,w1,hg,s1,s2,d1,c1⟩:=l13DrawRight_c (Z:=Z) K hS11 c
 obtain ⟨l1,l2,l3⟩:=Store.lenI w1.ri
 obtain ⟨r,h2,e2,r0,rnn,_,m2,c2⟩:=l01Below_c (Z:=Z) K.s01 c1 4
 have r4:=rnn (by omega)
 have hw1:IntKind.i64.wrap (1+r)=1+r:=wrapI _ (by omega) (by omega)
 have hw2:IntKind.i64.wrap (s.seen+1)=s.seen+1:=wrapI _ (by omega) (by omega)
 have hpos:=w1.pos
 have hl8:=w1.sg.good.len
 have W:=w1
 obtain ⟨z,q,rfl,rfl,wz⟩:=w1.ri
 have hwl:=wz.len
 rw[call_run F Z (hS15.lk (g:=410) rfl) _ _ rfl]
 by_cases hgt:1+r>s.seen+1
 ·obtain ⟨r2,h3,e3,r20,r2n,_,m3,c3⟩:=l01Below_c (Z:=Z) K.s01 c2 2
  have r22:=r2n (by omega)
  have hw3:IntKind.i64.wrap (1+r+r2)=1+r+r2:=wrapI _ (by omega) (by omega)
  obtain ⟨r3,h4,e4,r30,r3n,_,m4,c4⟩:=l01Below_c (Z:=Z) K.s01 c3 (s.shards.length:Int)
  have r33:=r3n (by omega)
  obtain ⟨i,rfl⟩: ∃i:Nat,r3=(i:Int):=⟨r3.toNat,by omega⟩
  have hi:i<s.shards.length:=by omega
  have dd:=(m2.dr.trans m3.dr).trans m4.dr
  have hix:=wz.idx hi
  obtain ⟨rr,ff,hld,hr,_⟩:=wz.oneDr w1.far hi
  have hld4:=hld h4 dd
  obtain ⟨a1,a2,a3,a4,rfl,_,_,_⟩:=hr
  refine ⟨⟨s.shards[i].lo,1,2,1+r+r2,0⟩,s,1+r,i,hi,_,h4,_,?_,W.dr dd,⟨w1.sg,hg,rfl,by show 0≤1+r;omega,rfl,rfl,rfl,rfl,by show s.seen<1+r+r2;omega,by show 1+r≤1+r+r2;omega,by show 1+r+r2≤900000;omega⟩,d1.trans dd,c4⟩
  simp only[rn,RO.dst,lk,drop,Nat.reduceBEq,Nat.reduceAdd,Nat.reduceLeDiff,↓reduceIte,reduceCtorEq,List.replicate_succ,List.replicate_zero,fills,and_self,List.set_cons_zero,List.set_cons_succ,Nat.reduceLT,Nat.zero_lt_succ,Nat.zero_lt_one,e1,l1,l2,l3,e2,hw1,hw2,hgt,e3,hw3,hwl,e4,hix,hld4,Hand.enc]
 ·obtain ⟨r3,h4,e4,r30,r3n,_,m4,c4⟩:=l01Below_c (Z:=Z) K.s01 c2 (s.shards.length:Int)
  have r33:=r3n (by omega)
  obtain ⟨i,rfl⟩: ∃i:Nat,r3=(i:Int):=⟨r3.toNat,by omega⟩
  have hi:i<s.shards.length:=by omega
  have dd:=m2.dr.trans m4.dr
  have hix:=wz.idx hi
  obtain ⟨rr,ff,hld,hr,_⟩:=wz.oneDr w1.far hi
  have hld4:=hld h4 dd
  obtain ⟨a1,a2,a3,a4,rfl,_,_,_⟩:=hr
  refine ⟨⟨s.shards[i].lo,1,2,s.seen+1,0⟩,s,1+r,i,hi,_,h4,_,?_,W.dr dd,⟨w1.sg,hg,rfl,by show 0≤1+r;omega,rfl,rfl,rfl,rfl,by show s.seen<s.seen+1;omega,by show 1+r≤s.seen+1;omega,by show s.seen+1≤900000;omega⟩,d1.trans dd,c4⟩
  simp only[rn,RO.dst,lk,drop,Nat.reduceBEq,Nat.reduceAdd,Nat.reduceLeDiff,↓reduceIte,reduceCtorEq,List.replicate_succ,List.replicate_zero,fills,and_self,List.set_cons_zero,List.set_cons_succ,Nat.reduceLT,Nat.zero_lt_succ,Nat.zero_lt_one,e1,l1,l2,l3,e2,hw1,hw2,hgt,hwl,e4,hix,hld4,Hand.enc]
set_option maxHeartbeats 2000000 in
set_option maxRecDepth 8000 in
theorem drawOps_turn (K:KS F) (hS15:Has F tS15) (hf:h0.floor≤h0.next) (w:Draw 15 h0 h k x code y rows) (hl:rows.length≤1000) (i:Int) (hi:0<i∧i≤1000):
 ∃(o:Int) (y':Cell) (h':Heap),(-9223372036854775808≤o∧o≤9223372036854775807)∧Draw 15 h0 h' k x code y' (rows++[int_enc o])∧loop F Z [0,5,6] r411L0 ⟨[(0,.c (.ptr k 0 0)),(5,.c y),(6,.c (.int .i64 i))],[],[],h⟩=loop F Z [0,5,6] r411L0 ⟨[(0,.c (.ptr k 0 0)),(5,.c y'),(6,.c (.int .i64 (i-1)))],[],[],h'⟩:=by
 have hws:IntKind.i64.wrap (i-1)=i-1:=wrapI _ (by omega) (by omega)
 obtain ⟨r1,h1,e1,r10,r1n,_,m1,c1⟩:=l01Below_c (Z:=Z) K.s01 w.cux.cur 12
 have r1l:=r1n (by omega)
 obtain ⟨o,h2,e2,ho,d2,c2⟩:=pick_lit (Z:=Z) K.s01 c1 [0,0,0,1,1,1,1,4,2,3,7,r1,-1] (by simp) (by simp)
 simp only[List.map_cons,List.map_nil,int_enc,List.length_cons,List.length_nil,Nat.zero_add,Nat.reduceAdd] at e2
 have w1:=w.dr (m1.dr.trans d2) c2
 have eo:=w1.one_eq hf (bytes:=8) (by omega) (int_enc o)
 have wo:=w1.one hf (by omega) (int_enc o)
 have hpos:i>0:=hi.1
 simp only[int_enc] at eo
 refine ⟨o,_,_,?_,wo,?_⟩
 ·simp only[List.mem_cons,List.not_mem_nil,or_false] at ho
  omega
 rw[loop_run]
 conv in (codeF _ _ r411L0 _)=>unfold r411L0
 simp only[rn,RO.dst,lk,drop,Nat.reduceBEq,Nat.reduceAdd,Nat.reduceLeDiff,↓reduceIte,reduceCtorEq,hpos,e1,List.replicate_succ,List.replicate_zero,fills,and_self,List.set_cons_zero,List.set_cons_succ,Nat.reduceLT,Nat.zero_lt_succ,Nat.zero_lt_one,e2,eo,hws]
 rfl
theorem l15DrawOps_c (K:KS F) (hS15:Has F tS15) (hf:h0.floor≤h0.next) (w:Cux h0 h k x code):
 ∃(y:Cell) (h':Heap) (ops:List Int),call F Z 411 [.c (.ptr k 0 0),.c x] h=some (.c y,h')∧Draw 15 h0 h' k x code y (ops.map int_enc)∧ops.length≤100∧ ∀o,o∈ops→ -9223372036854775808≤o∧o≤9223372036854775807:=by
 have wp:=w.go (On.push h [])
 obtain ⟨r1,e1,r1a,r1b⟩:=l01Size_c (Z:=Z) K.s01 wp.cur.vw 24 (by omega)
 have hw1:IntKind.i64.wrap (6+r1)=6+r1:=wrapI _ (by omega) (by omega)
 obtain ⟨n,h2,e2,n0,nn,_,m2,c2⟩:=l01Below_c (Z:=Z) K.s01 wp.cur (6+r1)
 have hn:=nn (by omega)
 obtain ⟨m,rfl⟩: ∃m:Nat,n=(m:Int):=⟨n.toNat,by omega⟩
 rw[call_run F Z (hS15.lk (g:=411) rfl) _ _ rfl]
 simp only[rn,RO.dst,lk,drop,Nat.reduceBEq,Nat.reduceAdd,Nat.reduceLeDiff,↓reduceIte,reduceCtorEq,List.replicate_succ,List.replicate_zero,fills,and_self,List.set_cons_zero,List.set_cons_succ,Nat.reduceLT,Nat.zero_lt_succ,Nat.zero_lt_one,e1,hw1,e2]
 have key:=loop_goes (F:=F) (Z:=Z) (live:=[0,5,6]) (b:=r411L0) m (fun i s=> ∃(y:Cell) (g:Heap) (es:List Int),s=⟨[(0,.c (.ptr k 0 0)),(5,.c y),(6,.c (.int .i64 ((m:Int)-(i:Nat))))],[],[],g⟩∧Draw 15 h0 g k x code y (es.map int_enc)∧es.length=i∧ ∀o,o∈es→ -9223372036854775808≤o∧o≤9223372036854775807) (fun i s hi ⟨y,g,es,hs,wd,hle,hok⟩=>by
  subst hs
  obtain ⟨e,y',g',oke,wd',eq⟩:=drawOps_turn (F:=F) (Z:=Z) K hS15 hf wd (by simp;omega) ((m:Int)-(i:Nat)) (by omega)
  refine ⟨_,⟨y',g',es++[e],rfl,by simpa using wd',by simp[hle],fun q hq=> ?_⟩,?_⟩
  ·rcases List.mem_append.1 hq with hq | hq
   ·exact hok q hq
   ·simp at hq;subst hq;exact oke
  ·rw[eq,show (m:Int)-(i:Nat)-1=(m:Int)-((i+1:Nat):Int) by omega]) (s:=⟨[(0,.c (.ptr k 0 0)),(5,.c (.sl 15 h.next 0 0)),(6,.c (.int .i64 ((m:Int)-((0:Nat):Int))))],[],[],h2⟩) ⟨_,_,[],rfl,by simpa using (Draw.start w).dr m2.dr c2,rfl,fun _ h=>(nomatch h)⟩
 obtain ⟨s',⟨y,g,es,rfl,wd,hle,hok⟩,e⟩:=key
 rw[show (m:Int)-((0:Nat):Int)=(m:Int) by omega] at e
 rw[e,loop_run]
 conv in (codeF _ _ r411L0 _)=>unfold r411L0
 simp only[rn,RO.dst,lk,drop,Nat.reduceBEq,Nat.reduceAdd,Nat.reduceLeDiff,↓reduceIte,reduceCtorEq,show ¬((m:Int)-(m:Int)>0) by omega]
 exact ⟨_,_,es,rfl,wd,by omega,hok⟩
set_option maxHeartbeats 2000000 in
set_option maxRecDepth 8000 in
theorem DrawRightHand_c (K:KS F) (hS11:Has F tS11) (hS15:Has F tS15) (hf:h.floor≤h.next) (w:Vw 19 byte_enc h x code):
 ∃(H:Hand) (s:Store) (n:Int) (i:Nat) (hi:i<s.shards.length) (cs:List Cell) (g:Heap) (fp fy:List Nat) (ops:List Int) (y:Cell),
  call F Z 409 [.c x] h=some (.tup [.agg H.enc,.agg cs,.agg [.int .i64 2,.int .i64 n,.nil],.c y],g)∧On h g∧Store.RI g cs s fp∧Ready H s (Store.void 2 n) i hi∧s.seen≤900000∧SlR 15 (Fl int_enc) g y ops fy∧ops.length≤100∧ ∀o,o∈ops→ -9223372036854775808≤o∧o≤9223372036854775807:=by
 obtain ⟨h1,e1,o1,c1⟩:=l01New_c (Z:=Z) K.s01 hf w
 obtain ⟨H,s,n,i,hi,cs,h2,fp,e2,w2,rd,d2,c2⟩:=l15DrawRight_c (Z:=Z) K hS11 hS15 c1
 obtain ⟨l1,l2,l3⟩:=Store.lenI w2.ri
 obtain ⟨y,g,ops,e3,wd,hl,hok⟩:=l15DrawOps_c (Z:=Z) K hS15 c2.le (Cux.self c2)
 obtain ⟨fy,y1,y2,y3⟩:=wd.sep
 have dl:=wd.cux.dr
 have hse:=rd.e1
 have hse3:=rd.e3
 refine ⟨H,s,n,i,hi,cs,g,fp,fy,ops,y,?_,(d2.trans dl).base o1 (Nat.le_refl _),Store.okI.dr w2.ri dl w2.far,rd,by omega,SlR.ofRaw y1,hl,hok⟩
 rw[call_run F Z (hS15.lk (g:=409) rfl) _ _ rfl]
 simp only[Hand.enc] at e2 ⊢
 simp only[rn,RO.dst,lk,drop,Nat.reduceBEq,Nat.reduceAdd,Nat.reduceLeDiff,↓reduceIte,reduceCtorEq,List.replicate_succ,List.replicate_zero,fills,and_self,List.set_cons_zero,List.set_cons_succ,Nat.reduceLT,Nat.zero_lt_succ,Nat.zero_lt_one,e1,e2,l1,l2,l3,e3]
end
end Go.Proofs.Ytjaideekkbpalaa.A
namespace Go.Proofs.Ytjaideekkbpalaa.A
open Go
set_option linter.unusedSimpArgs false
set_option linter.unusedVariables false
theorem same_dec (x y:Int):(x==y)=decide (x=y):=by rw[Bool.eq_iff_iff];simp
theorem sameA_eqs (a b:Account):eqsR true [.i .u64,.i .u64,.i .u64,.i .u64,.i .i64] (some (.agg a.enc)) (some (.agg b.enc))=some (.bool (!decide (a=b))):=by
 obtain ⟨a1,a2,a3,a4,a5⟩:=a
 obtain ⟨b1,b2,b3,b4,b5⟩:=b
 have hc:cellsEq? [.i .u64,.i .u64,.i .u64,.i .u64,.i .i64] (Account.enc ⟨a1,a2,a3,a4,a5⟩) (Account.enc ⟨b1,b2,b3,b4,b5⟩)=some (decide ((⟨a1,a2,a3,a4,a5⟩:Account)=⟨b1,b2,b3,b4,b5⟩)):=by
  simp only[cellsEq?,eqK,Account.enc,same_dec]
  by_cases h1:a1=b1<;>by_cases h2:a2=b2<;>by_cases h3:a3=b3<;>by_cases h4:a4=b4<;>by_cases h5:a5=b5<;>simp[h1,h2,h3,h4,h5]
 simp only[eqsR,hc,Account.len,List.length_cons,List.length_nil,and_self,if_true,Option.bind_some,Bool.true_xor]
theorem sameF_eqs (a b:Fin):eqsR true [.i .i64,.i .u64] (some (.agg a.enc)) (some (.agg b.enc))=some (.bool (!decide (a=b))):=by
 obtain ⟨a1,a2⟩:=a
 obtain ⟨b1,b2⟩:=b
 have hc:cellsEq? [.i .i64,.i .u64] (Fin.enc ⟨a1,a2⟩) (Fin.enc ⟨b1,b2⟩)=some (decide ((⟨a1,a2⟩:Fin)=⟨b1,b2⟩)):=by
  simp only[cellsEq?,eqK,Fin.enc,same_dec]
  by_cases h1:a1=b1<;>by_cases h2:a2=b2<;>simp[h1,h2]
 simp only[eqsR,hc,Fin.len,List.length_cons,List.length_nil,and_self,if_true,Option.bind_some,Bool.true_xor]
section
variable {F:Nat→Option RF} {Z:CallF} {h:Heap} {cs cs':List Cell} {fp fq:List Nat}
theorem sameBook_r {t u:Book} (hLBook:Has F tLBook) (v:Book.RI h cs t fp) (v':Book.RI h cs' u fq):call F Z 397 [.agg cs,.agg cs'] h=some (.c (.bool (decide (t=u))),h):=by
 obtain ⟨x,p1,rfl,rfl,w⟩:=v
 obtain ⟨y,p1',rfl,rfl,v⟩:=v'
 obtain ⟨xs⟩:=t
 obtain ⟨ys⟩:=u
 simp only at w v
 have hw:=w.le2
 have hv:=v.le2
 have hq:decide ((⟨xs⟩:Book)=⟨ys⟩)=decide (xs=ys):=by simp
 rw[hq,call_run F Z (hLBook.lk (g:=397) rfl) _ _ rfl]
 simp only[rn,RO.dst,lk,drop,Nat.reduceBEq,Nat.reduceAdd,Nat.reduceLeDiff,↓reduceIte,reduceCtorEq,w.len,v.len]
 rw[condC_if]
 split
 ·rename_i hne
  have:xs≠ys:=by rintro rfl;simp at hne
  simp only[rn,RO.dst,lk,drop,Nat.reduceBEq,Nat.reduceAdd,Nat.reduceLeDiff,↓reduceIte,reduceCtorEq,this]
 ·rename_i he
  have he:xs.length=ys.length:=by simp at he;omega
  simp only[rn,RO.dst,lk,drop,Nat.reduceBEq,Nat.reduceAdd,Nat.reduceLeDiff,↓reduceIte,reduceCtorEq]
  have key:=loop_allN (F:=F) (Z:=Z) (live:=[2,3,5]) (b:=r397L0) xs.length (fun i=>⟨[(5,.c (.int .i64 (i:Nat)))],[(2,2,0),(3,3,0)],[(2,[x]),(3,[y])],h⟩) (fun i=>decide (xs[i]? =ys[i]?)) (fun s=>lk s.env 4=some (.c (.bool false))∧s.hp=h) fun i hi=>by
   have hi':i<ys.length:=by omega
   have hlt:(i:Int)<xs.length:=by omega
   have hl1:=w.load hi
   have hl2:=v.load hi'
   rw[loop_run]
   conv in (codeF _ _ r397L0 _)=>unfold r397L0
   simp only[rn,RO.dst,lk,drop,Nat.reduceBEq,Nat.reduceAdd,Nat.reduceLeDiff,↓reduceIte,reduceCtorEq,w.len,hlt,w.idx hi,v.idx hi',hl1,hl2,Account.len,Account.tak,sameA_eqs,wrapS i (by omega)]
   rw[List.getElem?_eq_getElem hi,List.getElem?_eq_getElem hi']
   by_cases hq:xs[i]=ys[i]
   ·simp only[rn,RO.dst,lk,drop,Nat.reduceBEq,Nat.reduceAdd,Nat.reduceLeDiff,↓reduceIte,reduceCtorEq,hq,wrapS i (by omega)]
    exact .inl ⟨by simp,rfl⟩
   ·simp only[rn,RO.dst,lk,drop,Nat.reduceBEq,Nat.reduceAdd,Nat.reduceLeDiff,↓reduceIte,reduceCtorEq,hq]
    exact .inr ⟨by simp[hq],_,rfl,rfl,rfl⟩
  rw[all_same he] at key
  rcases key with ⟨k1,k2⟩ | ⟨k1,s,k2,k3,k4⟩
  ·simp only[show ((0:Nat):Int)=0 from rfl] at k2
   rw[k2,loop_run]
   conv in (codeF _ _ r397L0 _)=>unfold r397L0
   have hlt: ¬(xs.length:Int)<xs.length:=by omega
   simp only[rn,RO.dst,lk,drop,Nat.reduceBEq,Nat.reduceAdd,Nat.reduceLeDiff,↓reduceIte,reduceCtorEq,w.len,hlt,k1]
  ·simp only[show ((0:Nat):Int)=0 from rfl] at k2
   rw[k2]
   simp only[rn,RO.dst,lk,drop,Nat.reduceBEq,Nat.reduceAdd,Nat.reduceLeDiff,↓reduceIte,reduceCtorEq,k3,k4,k1]
set_option maxHeartbeats 2000000 in
theorem sameShard_r {t u:Shard} (hLShard:Has F tLShard) (hLBook:Has F tLBook) (v:Shard.RI h cs t fp) (v':Shard.RI h cs' u fq):call F Z 394 [.agg cs,.agg cs'] h=some (.c (.bool (decide (t=u))),h):=by
 obtain ⟨x1,p1,x,p2,rfl,rfl,w1,w⟩:=v
 obtain ⟨y1,p1',y,p2',rfl,rfl,v1,v⟩:=v'
 obtain ⟨lo1,hi1,state1,epoch1,book1,xs⟩:=t
 obtain ⟨lo2,hi2,state2,epoch2,book2,ys⟩:=u
 simp only at w v w1 v1
 have hw:=w.le2
 have hv:=v.le2
 have e0:=sameBook_r (Z:=Z) hLBook (⟨x1,_,rfl,rfl,w1⟩:Book.RI h _ book1 _) (⟨y1,_,rfl,rfl,v1⟩:Book.RI h _ book2 _)
 rw[call_run F Z (hLShard.lk (g:=394) rfl) _ _ rfl]
 cases q1:(lo1 !=lo2) with
 | true=>
   have hne:lo1≠lo2:=by simpa using q1
   simp only[rn,RO.dst,lk,drop,Nat.reduceBEq,Nat.reduceAdd,Nat.reduceLeDiff,↓reduceIte,reduceCtorEq,q1]
   simp[hne]
 | false=>
 cases q2:(hi1 !=hi2) with
 | true=>
   have hne:hi1≠hi2:=by simpa using q2
   simp only[rn,RO.dst,lk,drop,Nat.reduceBEq,Nat.reduceAdd,Nat.reduceLeDiff,↓reduceIte,reduceCtorEq,q1,q2]
   simp[hne]
 | false=>
 cases q3:(state1 !=state2) with
 | true=>
   have hne:state1≠state2:=by simpa using q3
   simp only[rn,RO.dst,lk,drop,Nat.reduceBEq,Nat.reduceAdd,Nat.reduceLeDiff,↓reduceIte,reduceCtorEq,q1,q2,q3]
   simp[hne]
 | false=>
 cases q4:(epoch1 !=epoch2) with
 | true=>
   have hne:epoch1≠epoch2:=by simpa using q4
   simp only[rn,RO.dst,lk,drop,Nat.reduceBEq,Nat.reduceAdd,Nat.reduceLeDiff,↓reduceIte,reduceCtorEq,q1,q2,q3,q4]
   simp[hne]
 | false=>
 by_cases q5:book1=book2
 case neg=>
  simp only[q5,decide_false] at e0
  simp only[rn,RO.dst,lk,drop,Nat.reduceBEq,Nat.reduceAdd,Nat.reduceLeDiff,↓reduceIte,reduceCtorEq,q1,q2,q3,q4,e0]
  simp[q5]
 simp only[q5,decide_true] at e0
 cases q6:(((xs.length:Nat):Int) !=((ys.length:Nat):Int)) with
 | true=>
   have hne:xs≠ys:=by rintro rfl;simp at q6
   simp only[rn,RO.dst,lk,drop,Nat.reduceBEq,Nat.reduceAdd,Nat.reduceLeDiff,↓reduceIte,reduceCtorEq,q1,q2,q3,q4,e0,w.len,v.len,q6]
   simp[hne]
 | false=>
 have he:xs.length=ys.length:=by simp at q6;omega
 have t1:lo1=lo2:=by simpa using q1
 have t2:hi1=hi2:=by simpa using q2
 have t3:state1=state2:=by simpa using q3
 have t4:epoch1=epoch2:=by simpa using q4
 have hq:decide ((⟨lo1,hi1,state1,epoch1,book1,xs⟩:Shard)=⟨lo2,hi2,state2,epoch2,book2,ys⟩)=decide (xs=ys):=by simp[t1,t2,t3,t4,q5]
 rw[hq]
 have key:=loop_allN (F:=F) (Z:=Z) (live:=[2,3,5]) (b:=r394L0) xs.length (fun i=>⟨[(5,.c (.int .i64 (i:Nat)))],[(2,2,0),(3,3,0)],[(2,[.int .u64 lo1,.int .u64 hi1,.int .i64 state1,.int .i64 epoch1,x1,x]),(3,[.int .u64 lo2,.int .u64 hi2,.int .i64 state2,.int .i64 epoch2,y1,y])],h⟩) (fun i=>decide (xs[i]? =ys[i]?)) (fun s=>lk s.env 4=some (.c (.bool false))∧s.hp=h) fun i hi=>by
  have hi':i<ys.length:=by omega
  have hlt:(i:Int)<xs.length:=by omega
  have hl1:=w.load hi
  have hl2:=v.load hi'
  rw[loop_run]
  conv in (codeF _ _ r394L0 _)=>unfold r394L0
  simp only[rn,RO.dst,lk,drop,Nat.reduceBEq,Nat.reduceAdd,Nat.reduceLeDiff,↓reduceIte,reduceCtorEq,w.len,hlt,w.idx hi,v.idx hi',hl1,hl2,Fin.len,Fin.tak,sameF_eqs,wrapS i (by omega)]
  rw[List.getElem?_eq_getElem hi,List.getElem?_eq_getElem hi']
  by_cases hq:xs[i]=ys[i]
  ·simp only[rn,RO.dst,lk,drop,Nat.reduceBEq,Nat.reduceAdd,Nat.reduceLeDiff,↓reduceIte,reduceCtorEq,hq,wrapS i (by omega)]
   exact .inl ⟨by simp,rfl⟩
  ·simp only[rn,RO.dst,lk,drop,Nat.reduceBEq,Nat.reduceAdd,Nat.reduceLeDiff,↓reduceIte,reduceCtorEq,hq]
   exact .inr ⟨by simp[hq],_,rfl,rfl,rfl⟩
 rw[all_same he] at key
 simp only[rn,RO.dst,lk,drop,Nat.reduceBEq,Nat.reduceAdd,Nat.reduceLeDiff,↓reduceIte,reduceCtorEq,q1,q2,q3,q4,e0,w.len,v.len,q6]
 rcases key with ⟨k1,k2⟩ | ⟨k1,s,k2,k3,k4⟩
 ·simp only[show ((0:Nat):Int)=0 from rfl] at k2
  rw[k2,loop_run]
  conv in (codeF _ _ r394L0 _)=>unfold r394L0
  have hlt: ¬(xs.length:Int)<xs.length:=by omega
  simp only[rn,RO.dst,lk,drop,Nat.reduceBEq,Nat.reduceAdd,Nat.reduceLeDiff,↓reduceIte,reduceCtorEq,w.len,hlt,k1]
 ·simp only[show ((0:Nat):Int)=0 from rfl] at k2
  rw[k2]
  simp only[rn,RO.dst,lk,drop,Nat.reduceBEq,Nat.reduceAdd,Nat.reduceLeDiff,↓reduceIte,reduceCtorEq,k3,k4,k1]
set_option maxHeartbeats 2000000 in
theorem sameStore_r {t u:Store} (hLStore:Has F tLStore) (hLShard:Has F tLShard) (hLBook:Has F tLBook) (v:Store.RI h cs t fp) (v':Store.RI h cs' u fq):call F Z 385 [.agg cs,.agg cs'] h=some (.c (.bool (decide (t=u))),h):=by
 obtain ⟨x,p2,rfl,rfl,w⟩:=v
 obtain ⟨y,p2',rfl,rfl,v⟩:=v'
 obtain ⟨g1,s1,xs⟩:=t
 obtain ⟨g2,s2,ys⟩:=u
 simp only at w v
 have hw:=w.le2
 have hv:=v.le2
 rw[call_run F Z (hLStore.lk (g:=385) rfl) _ _ rfl]
 cases q1:(g1 !=g2) with
 | true=>
   have hne:g1≠g2:=by simpa using q1
   simp only[rn,RO.dst,lk,drop,Nat.reduceBEq,Nat.reduceAdd,Nat.reduceLeDiff,↓reduceIte,reduceCtorEq,q1]
   simp[hne]
 | false=>
 cases q2:(s1 !=s2) with
 | true=>
   have hne:s1≠s2:=by simpa using q2
   simp only[rn,RO.dst,lk,drop,Nat.reduceBEq,Nat.reduceAdd,Nat.reduceLeDiff,↓reduceIte,reduceCtorEq,q1,q2]
   simp[hne]
 | false=>
 cases q6:(((xs.length:Nat):Int) !=((ys.length:Nat):Int)) with
 | true=>
   have hne:xs≠ys:=by rintro rfl;simp at q6
   simp only[rn,RO.dst,lk,drop,Nat.reduceBEq,Nat.reduceAdd,Nat.reduceLeDiff,↓reduceIte,reduceCtorEq,q1,q2,w.len,v.len,q6]
   simp[hne]
 | false=>
 have he:xs.length=ys.length:=by simp at q6;omega
 have t1:g1=g2:=by simpa using q1
 have t2:s1=s2:=by simpa using q2
 have hq:decide ((⟨g1,s1,xs⟩:Store)=⟨g2,s2,ys⟩)=decide (xs=ys):=by simp[t1,t2]
 rw[hq]
 have key:=loop_allN (F:=F) (Z:=Z) (live:=[2,3,5]) (b:=r385L0) xs.length (fun i=>⟨[(5,.c (.int .i64 (i:Nat)))],[(2,2,0),(3,3,0)],[(2,[.int .i64 g1,.int .i64 s1,x]),(3,[.int .i64 g2,.int .i64 s2,y])],h⟩) (fun i=>decide (xs[i]? =ys[i]?)) (fun s=>lk s.env 4=some (.c (.bool false))∧s.hp=h) fun i hi=>by
  have hi':i<ys.length:=by omega
  have hlt:(i:Int)<xs.length:=by omega
  obtain ⟨r,f,hld,hr,_⟩:=w.one hi
  obtain ⟨r',f',hld',hr',_⟩:=v.one hi'
  obtain ⟨l1,l2,l3⟩:=Shard.lenI hr
  obtain ⟨l1',l2',l3'⟩:=Shard.lenI hr'
  have e:=sameShard_r (Z:=Z) (h:=⟨h.next,h.next,h.get⟩) hLShard hLBook (Shard.okI.up hr _) (Shard.okI.up hr' _)
  rw[loop_run]
  conv in (codeF _ _ r385L0 _)=>unfold r385L0
  simp only[rn,RO.dst,lk,drop,Nat.reduceBEq,Nat.reduceAdd,Nat.reduceLeDiff,↓reduceIte,reduceCtorEq,w.len,hlt,w.idx hi,v.idx hi',hld,hld',l1,l2,l1',l2',e,wrapS i (by omega)]
  rw[List.getElem?_eq_getElem hi,List.getElem?_eq_getElem hi']
  by_cases hq:xs[i]=ys[i]
  ·simp only[rn,RO.dst,lk,drop,Nat.reduceBEq,Nat.reduceAdd,Nat.reduceLeDiff,↓reduceIte,reduceCtorEq,hq,wrapS i (by omega)]
   exact .inl ⟨by simp,rfl⟩
  ·simp only[rn,RO.dst,lk,drop,Nat.reduceBEq,Nat.reduceAdd,Nat.reduceLeDiff,↓reduceIte,reduceCtorEq,hq]
   exact .inr ⟨by simp[hq],_,rfl,rfl,rfl⟩
 rw[all_same he] at key
 simp only[rn,RO.dst,lk,drop,Nat.reduceBEq,Nat.reduceAdd,Nat.reduceLeDiff,↓reduceIte,reduceCtorEq,q1,q2,w.len,v.len,q6]
 rcases key with ⟨k1,k2⟩ | ⟨k1,s,k2,k3,k4⟩
 ·simp only[show ((0:Nat):Int)=0 from rfl] at k2
  rw[k2,loop_run]
  conv in (codeF _ _ r385L0 _)=>unfold r385L0
  have hlt: ¬(xs.length:Int)<xs.length:=by omega
  simp only[rn,RO.dst,lk,drop,Nat.reduceBEq,Nat.reduceAdd,Nat.reduceLeDiff,↓reduceIte,reduceCtorEq,w.len,hlt,k1]
 ·simp only[show ((0:Nat):Int)=0 from rfl] at k2
  rw[k2]
  simp only[rn,RO.dst,lk,drop,Nat.reduceBEq,Nat.reduceAdd,Nat.reduceLeDiff,↓reduceIte,reduceCtorEq,k3,k4,k1]
end
end Go.Proofs.Ytjaideekkbpalaa.A
namespace Go.Proofs.Ytjaideekkbpalaa.A
open Go
set_option linter.unusedSimpArgs false
set_option linter.unusedVariables false
theorem On.put_ {h g:Heap} (o:On h g) {k:Nat} (hk:h.next≤k) (rows:List (List Cell)):On h (g.put k rows):=⟨⟨o.ext.1,fun id hid=>by
 rw[put_ne _ (by omega)];exact o.ext.2 id hid⟩,o.fl⟩
structure Net {β:Type} (P:Rel β) (tag:Nat) (h0 g:Heap) (ks:List Nat) (y:Cell) (rows:List (List Cell)) (bs:List β) (fy:List Nat):Prop where
 sl:SlR tag (Fl fun r=>r) g y rows fy
 fre:Fre h0 fy
 on:On h0 g
 len:rows.length=bs.length
 ky: ∀k,k∈ks→k∉fy∧k<g.next
 el: ∀(i:Nat) (b:β),bs[i]? =some b→ ∃r f,rows[i]? =some r∧P g r b f∧ ∀id,id∈f→h0.next≤id∧id∉fy∧id∉ks
section
variable {β:Type} {P:Rel β} {tag:Nat} {h0 g g':Heap} {ks:List Nat} {y z:Cell} {rows:List (List Cell)} {bs:List β} {fy fz:List Nat}
theorem Net.go (w:Net P tag h0 g ks y rows bs fy) (ok:RelOk P) (o:On g g'):Net P tag h0 g' ks y rows bs fy where
 sl:=w.sl.on (Fl.ok _) o
 fre:=w.fre
 on:=w.on.trans o
 len:=w.len
 ky:=fun k hk=>⟨(w.ky k hk).1,Nat.lt_of_lt_of_le (w.ky k hk).2 o.ext.1⟩
 el:=fun i b hb=>by
  obtain ⟨r,f,q1,q2,q3⟩:=w.el i b hb
  exact ⟨r,f,q1,ok.on q2 o,q3⟩
theorem Net.of_re (w:Net P tag h0 g ks y rows bs fy) (ok:RelOk P) (re:Re g g' fy fz) {rows':List (List Cell)} {bs':List β} (s:SlR tag (Fl fun r=>r) g' z rows' fz) (hl:rows'.length=bs'.length)
 (he: ∀(i:Nat) (b:β),bs'[i]? =some b→(∃j:Nat,bs[j]? =some b∧rows'[i]? =rows[j]?)∨ ∃r f,rows'[i]? =some r∧P g r b f∧ ∀id,id∈f→h0.next≤id∧id∉fy∧id∉ks):Net P tag h0 g' ks z rows' bs' fz where
 sl:=s
 fre:=re.fre w.on w.fre
 on:=re.on w.on w.fre
 len:=hl
 ky:=fun k hk=>⟨fun hz=>by
  obtain ⟨q1,q2⟩:=w.ky k hk
  rcases re.of k hz with h | h
  ·exact q1 h
  ·omega,Nat.lt_of_lt_of_le (w.ky k hk).2 re.le⟩
 el:=fun i b hb=>by
  have key: ∃r f,rows'[i]? =some r∧P g r b f∧ ∀id,id∈f→h0.next≤id∧id∉fy∧id∉ks:=by
   rcases he i b hb with ⟨j,h1,h2⟩ | h
   ·obtain ⟨r,f,q1,q2,q3⟩:=w.el j b h1
    exact ⟨r,f,h2.trans q1,q2,q3⟩
   ·exact h
  obtain ⟨r,f,q1,q2,q3⟩:=key
  refine ⟨r,f,q1,ok.mv q2 re.le fun id hid=>re.get id (ok.lt q2 id hid) (q3 id hid).2.1,fun id hid=>⟨(q3 id hid).1,fun hz=> ?_,(q3 id hid).2.2⟩⟩
  have:=ok.lt q2 id hid
  rcases re.of id hz with h | h
  ·exact (q3 id hid).2.1 h
  ·omega
theorem Net.push_ (w:Net P tag h0 g ks y rows bs fy) (ok:RelOk P) (hf:h0.floor≤h0.next) (hl:rows.length+1≤140737488355328) {cs:List Cell} {b:β} {f:List Nat} (v:P g cs b f) (hv: ∀id,id∈f→h0.next≤id∧id∉fy∧id∉ks):
 ∃fz,Net P tag h0 (catH (g.push [cs]) y [cs]) ks (catX tag (g.push [cs]) y 1) (rows++[cs]) (bs++[b]) fz∧Re g (catH (g.push [cs]) y [cs]) fy fz:=by
 have a0:Acc tag h0 g y rows:=⟨w.on,fy,w.sl,w.fre⟩
 have a:=a0.one hf hl cs
 obtain ⟨fz,q1,q2⟩:=a.sh
 have hyp:=w.sl.on (Fl.ok _) (On.push g [cs])
 have hz: ∀id,id∈fz→id=g.next+1:=fun id hid=>by
  have h3:id∈[(catX tag (g.push [cs]) y 1).sid]:=by
   rcases q1.flat with ⟨_,h4,_⟩ | ⟨_,_,_,h4⟩
   ·simp at h4
   ·rw[←h4];exact hid
  rw[catX_sid] at h3
  simpa[Heap.push] using h3
 have re:Re g (catH (g.push [cs]) y [cs]) fy fz:=⟨Nat.le_trans (by simp[Heap.push]) (catH_next (g.push [cs]) y [cs]),a.on.fl.trans w.on.fl.symm,fun id hid hn=>by
  rw[catH_keep hyp [cs] (by simp only[Heap.push];omega) hn]
  simp only[Heap.push];rw[if_neg (by omega)],q2.nd,fun id hid=> .inr (by have:=hz id hid;omega)⟩
 refine ⟨fz,w.of_re ok re q1 (by simp[w.len]) fun i b' hb=> ?_,re⟩
 by_cases hi:i<bs.length
 ·rw[List.getElem?_append_left hi] at hb
  exact .inl ⟨i,hb,by rw[List.getElem?_append_left (by rw[w.len];exact hi)]⟩
 ·have hie:i=bs.length:=by
   have:=(List.getElem?_eq_some_iff.1 hb).1
   simp at this;omega
  subst hie
  right
  have hb':b=b':=by simpa using hb
  subst hb'
  exact ⟨cs,f,by rw[←w.len];simp,v,hv⟩
theorem Net.del (w:Net P tag h0 g ks y rows bs fy) (ok:RelOk P) (hf:h0.floor≤h0.next) {i:Nat} (hi:i<bs.length):
 ∃z g' fz,delF tag [.c y,.c (.int .i64 (i:Nat)),.c (.int .i64 ((i+1:Nat):Int))] g=some (.c z,g')∧Net P tag h0 g' ks z (rows.eraseIdx i) (bs.eraseIdx i) fz∧Re g g' fy fz:=by
 obtain ⟨z,g',fz,e,s,re⟩:=w.sl.del (Fl.ok _) w.fre.nd (fun id hid=>by have:=w.fre.lo id hid;have:=w.on.fl;omega) (i:=i) (by rw[w.len];exact hi)
 refine ⟨z,g',fz,e,w.of_re ok re s (by rw[List.length_eraseIdx,List.length_eraseIdx,w.len]) fun j b hb=> .inl ?_,re⟩
 rw[List.getElem?_eraseIdx] at hb
 rw[List.getElem?_eraseIdx]
 split at hb
 ·rename_i h;rw[if_pos h];exact ⟨j,hb,rfl⟩
 ·rename_i h;rw[if_neg h];exact ⟨j+1,hb,rfl⟩
theorem Net.put (w:Net P tag h0 g ks y rows bs fy) (ok:RelOk P) {k:Nat} (hk:k∈ks) (h0k:h0.next≤k) (r:List (List Cell)):Net P tag h0 (g.put k r) ks y rows bs fy where
 sl:=w.sl.mv (Fl.ok _) (Nat.le_refl _) fun id hid=>put_ne _ fun e=>(w.ky k hk).1 (e▸hid)
 fre:=w.fre
 on:=w.on.put_ h0k r
 len:=w.len
 ky:=w.ky
 el:=fun i b hb=>by
  obtain ⟨r',f,q1,q2,q3⟩:=w.el i b hb
  exact ⟨r',f,q1,ok.mv q2 (Nat.le_refl _) fun id hid=>put_ne _ fun e=>(q3 id hid).2.2 (e▸hk),q3⟩
end
end Go.Proofs.Ytjaideekkbpalaa.A
namespace Go.Proofs.Ytjaideekkbpalaa.A
open Go
set_option linter.unusedSimpArgs false
set_option linter.unusedVariables false
structure IP (h0 g:Heap) (k5 k6:Nat) (y:Cell) (ca cb:List Cell) (p:Play) (rows:List (List Cell)) (fy fa fb:List Nat):Prop where
 net:Net HandMsg.RI 22 h0 g [k5,k6] y rows p.net fy
 ra:g.get k5=some [ca]
 rb:g.get k6=some [cb]
 va:Store.RI g ca p.a fa
 vb:Store.RI g cb p.b fb
 fra:Fre h0 fa
 frb:Fre h0 fb
 sa: ∀id,id∈fa→id∉fy∧id∉[k5,k6]
 sb: ∀id,id∈fb→id∉fy∧id∉[k5,k6]
 dj: ∀id,id∈fa→id∉fb
 ne:k5≠k6
 lo:h0.next≤k5∧h0.next≤k6
 ok:p.Ok
section
variable {h0 g g' g1:Heap} {k5 k6:Nat} {y z:Cell} {ca cb cs:List Cell} {p:Play} {rows rows':List (List Cell)} {fy fz fa fb fq:List Nat}
theorem IP.far5 (J:IP h0 g k5 k6 y ca cb p rows fy fa fb):k5∉fy∧k5<g.next:=J.net.ky k5 (by simp)
theorem IP.far6 (J:IP h0 g k5 k6 y ca cb p rows fy fa fb):k6∉fy∧k6<g.next:=J.net.ky k6 (by simp)
theorem IP.go (J:IP h0 g k5 k6 y ca cb p rows fy fa fb) (o:On g g'):IP h0 g' k5 k6 y ca cb p rows fy fa fb:=
 {J with
  net:=J.net.go HandMsg.okI o
  ra:=(o.ext.2 _ J.far5.2).trans J.ra
  rb:=(o.ext.2 _ J.far6.2).trans J.rb
  va:=Store.okI.on J.va o
  vb:=Store.okI.on J.vb o}
theorem IP.re {l:List HandMsg} (J:IP h0 g k5 k6 y ca cb p rows fy fa fb) (re:Re g g' fy fz) (net:Net HandMsg.RI 22 h0 g' [k5,k6] z rows' l fz) (ok:({p with net:=l}:Play).Ok):IP h0 g' k5 k6 z ca cb {p with net:=l} rows' fz fa fb:=
 {net:=net
  ra:=(re.get _ J.far5.2 J.far5.1).trans J.ra
  rb:=(re.get _ J.far6.2 J.far6.1).trans J.rb
  va:=Store.okI.mv J.va re.le fun id hid=>re.get id (Store.okI.lt J.va id hid) (J.sa id hid).1
  vb:=Store.okI.mv J.vb re.le fun id hid=>re.get id (Store.okI.lt J.vb id hid) (J.sb id hid).1
  fra:=J.fra
  frb:=J.frb
  sa:=fun id hid=>⟨fun hz=>by
   have:=Store.okI.lt J.va id hid
   rcases re.of id hz with h | h
   ·exact (J.sa id hid).1 h
   ·omega,(J.sa id hid).2⟩
  sb:=fun id hid=>⟨fun hz=>by
   have:=Store.okI.lt J.vb id hid
   rcases re.of id hz with h | h
   ·exact (J.sb id hid).1 h
   ·omega,(J.sb id hid).2⟩
  dj:=J.dj
  ne:=J.ne
  lo:=J.lo
  ok:=ok}
theorem IP.setA {A:Store} (J:IP h0 g k5 k6 y ca cb p rows fy fa fb) (o:On g g1) (v:Store.RI g1 cs A fq) (f:Fre g fq) (ok:({p with a:=A}:Play).Ok):IP h0 (g1.put k5 [cs]) k5 k6 y cs cb {p with a:=A} rows fy fq fb:=by
 have W:=J.go o
 have h5:=J.far5
 have h6:=J.far6
 have hn:=J.net.on.ext.1
 exact
 {net:=W.net.put HandMsg.okI (by simp) J.lo.1 _
  ra:=by simp[Heap.put]
  rb:=(put_ne _ (Ne.symm J.ne)).trans W.rb
  va:=Store.okI.mv v (Nat.le_refl _) fun id hid=>put_ne _ (by have:=f.lo id hid;omega)
  vb:=Store.okI.mv W.vb (Nat.le_refl _) fun id hid=>put_ne _ fun e=>(J.sb id hid).2 (by simp[e])
  fra:=⟨fun id hid=>by have:=f.lo id hid;omega,f.nd⟩
  frb:=J.frb
  sa:=fun id hid=>⟨fun hz=>by have:=f.lo id hid;have:=J.net.sl.lt (Fl.ok _) id hz;omega,fun hz=>by
   have:=f.lo id hid
   simp only[List.mem_cons,List.not_mem_nil,or_false] at hz
   omega⟩
  sb:=J.sb
  dj:=fun id hid hb=>by have:=f.lo id hid;have:=Store.okI.lt J.vb id hb;omega
  ne:=J.ne
  lo:=J.lo
  ok:=ok}
theorem IP.setB {B:Store} (J:IP h0 g k5 k6 y ca cb p rows fy fa fb) (o:On g g1) (v:Store.RI g1 cs B fq) (f:Fre g fq) (ok:({p with b:=B}:Play).Ok):IP h0 (g1.put k6 [cs]) k5 k6 y ca cs {p with b:=B} rows fy fa fq:=by
 have W:=J.go o
 have h5:=J.far5
 have h6:=J.far6
 have hn:=J.net.on.ext.1
 exact
 {net:=W.net.put HandMsg.okI (by simp) J.lo.2 _
  ra:=(put_ne _ J.ne).trans W.ra
  rb:=by simp[Heap.put]
  va:=Store.okI.mv W.va (Nat.le_refl _) fun id hid=>put_ne _ fun e=>(J.sa id hid).2 (by simp[e])
  vb:=Store.okI.mv v (Nat.le_refl _) fun id hid=>put_ne _ (by have:=f.lo id hid;omega)
  fra:=J.fra
  frb:=⟨fun id hid=>by have:=f.lo id hid;omega,f.nd⟩
  sa:=J.sa
  sb:=fun id hid=>⟨fun hz=>by have:=f.lo id hid;have:=J.net.sl.lt (Fl.ok _) id hz;omega,fun hz=>by
   have:=f.lo id hid
   simp only[List.mem_cons,List.not_mem_nil,or_false] at hz
   omega⟩
  dj:=fun id hid hb=>by have:=f.lo id hb;have:=Store.okI.lt J.va id hid;omega
  ne:=J.ne
  lo:=J.lo
  ok:=ok}
theorem IP.setH {H:Hand} (J:IP h0 g k5 k6 y ca cb p rows fy fa fb) (ok:({p with hd:=H}:Play).Ok):IP h0 g k5 k6 y ca cb {p with hd:=H} rows fy fa fb:={J with ok:=ok}
end
end Go.Proofs.Ytjaideekkbpalaa.A
namespace Go.Proofs.Ytjaideekkbpalaa.A
open Go
set_option linter.unusedSimpArgs false
set_option linter.unusedVariables false
theorem store_row {h:Heap} {k:Nat} {old new:List Cell} (hf:h.floor≤k) (hg:h.get k=some [old]) (hl:new.length=old.length):storeP h k 0 0 new=some (h.put k [new]):=by
 have:=storeP_at (rows:=[old]) (i:=0) (j:=0) (old:=old) (new:=new) (r:=new) hf hg rfl (by simp[splice?,hl])
 simpa using this
theorem quiet_go {a hq:Heap} (o:On ⟨a.next,a.next,a.get⟩ hq):On a (Heap.mk hq.next a.floor hq.get):=⟨⟨o.ext.1,o.ext.2⟩,rfl⟩
def pst (x y:Cell) (k5 k6 n:Nat) (hd:Hand) (i:Nat) (g:Heap):St:=
 ⟨[(5,.c (.ptr k5 0 0)),(6,.c (.ptr k6 0 0)),(11,.c y),(61,.c x),(62,.c (.int .i64 (n:Nat))),(63,.c (.int .i64 (i:Nat)))],[(4,4,0),(8,8,0),(9,9,0),(10,10,0)],
   [(4,hd.enc),(8,[.int .u64 0,.int .i64 0,.int .i64 0,.int .i64 0,.int .i64 0]),(9,[.int .i64 0,.int .i64 0,.nil]),(10,[.int .i64 0,.int .i64 0,.nil])],g⟩
section
variable {F:Nat→Option RF} {Z:CallF} {h0 g:Heap} {k5 k6:Nat} {x y:Cell} {ca cb:List Cell} {p:Play} {rows:List (List Cell)} {fy fa fb fo:List Nat} {ops:List Int}
set_option maxHeartbeats 4000000 in
theorem play_send (k:KI F) (hI15:Has F tI15) (hL:Has F tLibslicesIndexFuncimplShardimplShard) (hf:h0.floor≤h0.next) (J:IP h0 g k5 k6 y ca cb p rows fy fa fb) (w:Vw 15 int_enc h0 x ops) {i:Nat} (hi:i<ops.length) (hl:ops.length≤200) (ho:ops[i]=0):
 ∃g' y' rows' fy',IP h0 g' k5 k6 y' ca cb p.sends rows' fy' fa fb∧loop F Z [4,5,6,8,9,10,11,61,62,63] r368L0 (pst x y k5 k6 ops.length p.hd i g)=loop F Z [4,5,6,8,9,10,11,61,62,63] r368L0 (pst x y' k5 k6 ops.length p.sends.hd (i+1) g'):=by
 have wg:=w.on J.net.on
 have hlt:(i:Int)<ops.length:=by omega
 have hws:=wrapS i (by omega)
 have hix:=wg.idx hi
 have hld:=wg.load hi
 rw[ho] at hld
 obtain ⟨l1,l2,l3⟩:=Store.lenI J.va
 have ld5:=fun j n=>loadP_row J.ra (i:=0) rfl j n
 obtain ⟨cs,g1,fq,e1,o1,v1,f1⟩:=handSend_c (Z:=Z) k hI15 hL (J.net.on.le hf) p.hd J.va J.ok.a.1 J.ok.a.2
 obtain ⟨a1,a2,a3⟩:=HandMsg.lenI v1
 have J1:=J.go o1
 have hlen:=J1.net.sl.len
 have hrl:=J.net.len
 have hcap:=J.ok.net.1
 simp only[pst,Hand.enc] at *
 rw[loop_run]
 conv in (codeF _ _ r368L0 _)=>unfold r368L0
 unfold Play.sends Play.puts
 cases hs:(handSend p.hd p.a).2 with
 | false=>
   simp only[hs] at e1
   refine ⟨g1,y,rows,fy,J1,?_⟩
   simp only[rn,RO.dst,lk,drop,Nat.reduceBEq,Nat.reduceAdd,Nat.reduceLeDiff,↓reduceIte,reduceCtorEq,hlt,hix,hld,int_enc,show ((0:Int)==0)=true from rfl,ld5,l1,l2,l3,e1,a1,a2,a3,hws]
 | true=>
   simp only[hs] at e1
   by_cases h40:p.net.length<40
   ·have h40':(rows.length:Int)<40:=by omega
    have eo:=(show Acc 22 h0 g1 y rows from ⟨J1.net.on,fy,J1.net.sl,J1.net.fre⟩).one_eq hf (bytes:=112) (by omega) cs
    obtain ⟨fz,net',re⟩:=J1.net.push_ HandMsg.okI hf (by omega) v1 fun id hid=>⟨by have:=f1.lo id hid;have:=J.net.on.ext.1;omega,fun hz=>by have:=f1.lo id hid;have:=J.net.sl.lt (Fl.ok _) id hz;omega,fun hz=>by
     have:=f1.lo id hid
     have:=J.far5
     have:=J.far6
     simp only[List.mem_cons,List.not_mem_nil,or_false] at hz
     omega⟩
    have ok':=J.ok.puts ⟨handSend_ok J.ok.hd J.ok.a.1,handSend_small J.ok.a.2 p.hd⟩
    unfold Play.puts at ok'
    simp only[h40,decide_true,cond_true] at ok' ⊢
    refine ⟨_,_,_,fz,J1.re re net' ok',?_⟩
    simp only[rn,RO.dst,lk,drop,Nat.reduceBEq,Nat.reduceAdd,Nat.reduceLeDiff,↓reduceIte,reduceCtorEq,List.replicate_succ,List.replicate_zero,fills,and_self,List.set_cons_zero,List.set_cons_succ,Nat.reduceLT,Nat.zero_lt_succ,Nat.zero_lt_one,hlt,hix,hld,int_enc,show ((0:Int)==0)=true from rfl,ld5,l1,l2,l3,e1,a1,a2,a3,hlen,h40',eo,hws]
   ·have h40': ¬(rows.length:Int)<40:=by omega
    simp only[h40,decide_false,cond_false,cond_true]
    refine ⟨g1,y,rows,fy,J1,?_⟩
    simp only[rn,RO.dst,lk,drop,Nat.reduceBEq,Nat.reduceAdd,Nat.reduceLeDiff,↓reduceIte,reduceCtorEq,List.replicate_succ,List.replicate_zero,fills,and_self,List.set_cons_zero,List.set_cons_succ,Nat.reduceLT,Nat.zero_lt_succ,Nat.zero_lt_one,hlt,hix,hld,int_enc,show ((0:Int)==0)=true from rfl,ld5,l1,l2,l3,e1,a1,a2,a3,hlen,h40',hws]
end
end Go.Proofs.Ytjaideekkbpalaa.A
namespace Go.Proofs.Ytjaideekkbpalaa.A
open Go
set_option linter.unusedSimpArgs false
set_option linter.unusedVariables false
theorem place_eq {o:Int} (h0: ¬o<0) (h1:o≠0) (hb:o≤9223372036854775807):IntKind.i64.wrap (o-1)=o-1∧IntKind.i64.wrap ((o-1).tdiv 3)=((place o:Nat):Int):=by
 have e:(o-1).tdiv 3=(o-1) / 3:=Int.tdiv_eq_ediv_of_nonneg (by omega)
 refine ⟨wrapI _ (by omega) (by omega),?_⟩
 unfold place
 rw[e,wrapI _ (by omega) (by omega)]
 omega
section
variable {F:Nat→Option RF} {Z:CallF} {h0 g:Heap} {k5 k6:Nat} {x y:Cell} {ca cb:List Cell} {p:Play} {rows:List (List Cell)} {fy fa fb fo:List Nat} {ops:List Int}
set_option maxHeartbeats 4000000 in
theorem play_pass (J:IP h0 g k5 k6 y ca cb p rows fy fa fb) (w:Vw 15 int_enc h0 x ops) {i:Nat} (hi:i<ops.length) (hl:ops.length≤200) (ho:ops[i]≠0) (hb:ops[i]≤9223372036854775807) (hp:ops[i]<0∨p.net.length≤place ops[i]):
 loop F Z [4,5,6,8,9,10,11,61,62,63] r368L0 (pst x y k5 k6 ops.length p.hd i g)=loop F Z [4,5,6,8,9,10,11,61,62,63] r368L0 (pst x y k5 k6 ops.length p.hd (i+1) g):=by
 have wg:=w.on J.net.on
 have hlt:(i:Int)<ops.length:=by omega
 have hws:=wrapS i (by omega)
 have hix:=wg.idx hi
 have hld:=wg.load hi
 have hlen:=J.net.sl.len
 have hrl:=J.net.len
 generalize ops[i]=o at *
 have hn0:(o==0)=false:=by simpa using ho
 have bq:=fun a=>b_quo .i64 a 3 (by omega)
 simp only[pst,Hand.enc]
 rw[loop_run]
 conv in (codeF _ _ r368L0 _)=>unfold r368L0
 by_cases hneg:o<0
 ·simp only[rn,RO.dst,lk,drop,Nat.reduceBEq,Nat.reduceAdd,Nat.reduceLeDiff,↓reduceIte,reduceCtorEq,hlt,hix,hld,int_enc,hn0,bq,hneg,hws]
 ·obtain ⟨q1,q2⟩:=place_eq hneg ho hb
  have hge:(rows.length:Int)≤((place o:Nat):Int):=by omega
  have hge':((place o:Nat):Int)≥(rows.length:Int):=hge
  simp only[rn,RO.dst,lk,drop,Nat.reduceBEq,Nat.reduceAdd,Nat.reduceLeDiff,↓reduceIte,reduceCtorEq,hlt,hix,hld,int_enc,hn0,bq,hneg,q1,q2,hlen,hge,hge',hws]
set_option maxHeartbeats 4000000 in
theorem play_copy (hf:h0.floor≤h0.next) (J:IP h0 g k5 k6 y ca cb p rows fy fa fb) (w:Vw 15 int_enc h0 x ops) {i:Nat} (hi:i<ops.length) (hl:ops.length≤200) (ho:ops[i]≠0) (hb:ops[i]≤9223372036854775807) (hneg: ¬ops[i]<0) (hk:place ops[i]<p.net.length) (h3:ops[i].tmod 3=0):
 ∃g' y' rows' fy',IP h0 g' k5 k6 y' ca cb (p.puts (HandMsg.at_ p.net (place ops[i]))) rows' fy' fa fb∧
  loop F Z [4,5,6,8,9,10,11,61,62,63] r368L0 (pst x y k5 k6 ops.length p.hd i g)=loop F Z [4,5,6,8,9,10,11,61,62,63] r368L0 (pst x y' k5 k6 ops.length (p.puts (HandMsg.at_ p.net (place ops[i]))).hd (i+1) g'):=by
 have wg:=w.on J.net.on
 have hlt:(i:Int)<ops.length:=by omega
 have hws:=wrapS i (by omega)
 have hix:=wg.idx hi
 have hld:=wg.load hi
 have hlen:=J.net.sl.len
 have hrl:=J.net.len
 have hcap:=J.ok.net.1
 generalize ops[i]=o at *
 have hn0:(o==0)=false:=by simpa using ho
 have bq:=fun a=>b_quo .i64 a 3 (by omega)
 have br:=fun a=>b_rem .i64 a 3 (by omega)
 obtain ⟨q1,q2⟩:=place_eq hneg ho hb
 have hge: ¬(rows.length:Int)≤((place o:Nat):Int):=by omega
 have hge': ¬((place o:Nat):Int)≥(rows.length:Int):=hge
 have h30:(o.tmod 3==0)=true:=by simp[h3]
 have hokm:=J.ok.at_ hk
 generalize place o=kk at *
 obtain ⟨r,f,hr,vr,hfr⟩:=J.net.el kk p.net[kk] (List.getElem?_eq_getElem hk)
 obtain ⟨b1,b2,b3⟩:=HandMsg.lenI vr
 have hkr:kk<rows.length:=by omega
 have hrk:rows[kk]=r:=by
  rw[List.getElem?_eq_getElem hkr] at hr;injection hr
 have hmx:=J.net.sl.idx hkr
 have hml:=J.net.sl.load hkr
 simp only[hrk] at hml
 rw[HandMsg.at_get hk] at hokm ⊢
 simp only[pst,Hand.enc]
 rw[loop_run]
 conv in (codeF _ _ r368L0 _)=>unfold r368L0
 unfold Play.puts
 by_cases h40:p.net.length<40
 ·have h40':(rows.length:Int)<40:=by omega
  have eo:=(show Acc 22 h0 g y rows from ⟨J.net.on,fy,J.net.sl,J.net.fre⟩).one_eq hf (bytes:=112) (by omega) r
  obtain ⟨fz,net',re⟩:=J.net.push_ HandMsg.okI hf (by omega) vr hfr
  have ok':=J.ok.puts hokm
  unfold Play.puts at ok'
  simp only[h40,decide_true,cond_true] at ok' ⊢
  refine ⟨_,_,_,fz,J.re re net' ok',?_⟩
  simp only[rn,RO.dst,lk,drop,Nat.reduceBEq,Nat.reduceAdd,Nat.reduceLeDiff,↓reduceIte,reduceCtorEq,List.replicate_succ,List.replicate_zero,fills,and_self,List.set_cons_zero,List.set_cons_succ,Nat.reduceLT,Nat.zero_lt_succ,Nat.zero_lt_one,hlt,hix,hld,int_enc,hn0,bq,br,hneg,q1,q2,hlen,hge,hge',hmx,hml,b1,b2,b3,h30,h40',eo,hws]
 ·have h40': ¬(rows.length:Int)<40:=by omega
  simp only[h40,decide_false,cond_false]
  refine ⟨g,y,rows,fy,J,?_⟩
  simp only[rn,RO.dst,lk,drop,Nat.reduceBEq,Nat.reduceAdd,Nat.reduceLeDiff,↓reduceIte,reduceCtorEq,List.replicate_succ,List.replicate_zero,fills,and_self,List.set_cons_zero,List.set_cons_succ,Nat.reduceLT,Nat.zero_lt_succ,Nat.zero_lt_one,hlt,hix,hld,int_enc,hn0,bq,br,hneg,q1,q2,hlen,hge,hge',hmx,hml,b1,b2,b3,h30,h40',hws]
set_option maxHeartbeats 4000000 in
theorem play_lose (prm:PrimAt F Z 376 (delF 22)) (hf:h0.floor≤h0.next) (J:IP h0 g k5 k6 y ca cb p rows fy fa fb) (w:Vw 15 int_enc h0 x ops) {i:Nat} (hi:i<ops.length) (hl:ops.length≤200) (ho:ops[i]≠0) (hb:ops[i]≤9223372036854775807) (hneg: ¬ops[i]<0) (hk:place ops[i]<p.net.length) (h3:ops[i].tmod 3=2):
 ∃g' y' rows' fy',IP h0 g' k5 k6 y' ca cb (p.loses (place ops[i])) rows' fy' fa fb∧
  loop F Z [4,5,6,8,9,10,11,61,62,63] r368L0 (pst x y k5 k6 ops.length p.hd i g)=loop F Z [4,5,6,8,9,10,11,61,62,63] r368L0 (pst x y' k5 k6 ops.length (p.loses (place ops[i])).hd (i+1) g'):=by
 have wg:=w.on J.net.on
 have hlt:(i:Int)<ops.length:=by omega
 have hws:=wrapS i (by omega)
 have hix:=wg.idx hi
 have hld:=wg.load hi
 have hlen:=J.net.sl.len
 have hrl:=J.net.len
 have hcap:=J.ok.net.1
 generalize ops[i]=o at *
 have hn0:(o==0)=false:=by simpa using ho
 have bq:=fun a=>b_quo .i64 a 3 (by omega)
 have br:=fun a=>b_rem .i64 a 3 (by omega)
 obtain ⟨q1,q2⟩:=place_eq hneg ho hb
 have hge: ¬(rows.length:Int)≤((place o:Nat):Int):=by omega
 have hge': ¬((place o:Nat):Int)≥(rows.length:Int):=hge
 have h30:(o.tmod 3==0)=false:=by simp[h3]
 have h32:(o.tmod 3==2)=true:=by simp[h3]
 generalize place o=kk at *
 have hwk:=wrapS kk (by omega)
 obtain ⟨r,f,hr,vr,hfr⟩:=J.net.el kk p.net[kk] (List.getElem?_eq_getElem hk)
 obtain ⟨b1,b2,b3⟩:=HandMsg.lenI vr
 have hkr:kk<rows.length:=by omega
 have hrk:rows[kk]=r:=by
  rw[List.getElem?_eq_getElem hkr] at hr;injection hr
 have hmx:=J.net.sl.idx hkr
 have hml:=J.net.sl.load hkr
 simp only[hrk] at hml
 obtain ⟨z,g1,fz,ed,net',re⟩:=J.net.del HandMsg.okI hf hk
 have ec:=(prm _ _).trans ed
 refine ⟨_,_,_,fz,J.re re net' (J.ok.loses kk),?_⟩
 simp only[pst,Hand.enc,Play.loses]
 rw[loop_run]
 conv in (codeF _ _ r368L0 _)=>unfold r368L0
 simp only[rn,RO.dst,lk,drop,Nat.reduceBEq,Nat.reduceAdd,Nat.reduceLeDiff,↓reduceIte,reduceCtorEq,List.replicate_succ,List.replicate_zero,fills,and_self,List.set_cons_zero,List.set_cons_succ,Nat.reduceLT,Nat.zero_lt_succ,Nat.zero_lt_one,hlt,hix,hld,int_enc,hn0,bq,br,hneg,q1,q2,hlen,hge,hge',hmx,hml,b1,b2,b3,h30,h32,hwk,ec,hws]
end
end Go.Proofs.Ytjaideekkbpalaa.A
namespace Go.Proofs.Ytjaideekkbpalaa.A
open Go
set_option linter.unusedSimpArgs false
set_option linter.unusedVariables false
section
variable {F:Nat→Option RF} {Z:CallF} {h0 g:Heap} {k5 k6:Nat} {x y:Cell} {ca cb:List Cell} {p:Play} {rows:List (List Cell)} {fy fa fb fo:List Nat} {ops:List Int}
set_option maxHeartbeats 8000000 in
theorem play_take (k:KI F) (hI15:Has F tI15) (hL:Has F tLibslicesIndexFuncimplShardimplShard) (prd:PrimAt F Z 330 (delF 16)) (pri:PrimAt F Z 332 (insF 16 80)) (prm:PrimAt F Z 376 (delF 22)) (hf:h0.floor≤h0.next) (J:IP h0 g k5 k6 y ca cb p rows fy fa fb) (w:Vw 15 int_enc h0 x ops) {i:Nat} (hi:i<ops.length) (hl:ops.length≤200) (ho:ops[i]≠0) (hb:ops[i]≤9223372036854775807) (hneg: ¬ops[i]<0) (hk:place ops[i]<p.net.length) (h3:ops[i].tmod 3≠0) (h4:ops[i].tmod 3≠2):
 ∃g' y' ca' cb' rows' fy' fa' fb',IP h0 g' k5 k6 y' ca' cb' ((p.loses (place ops[i])).takes (HandMsg.at_ p.net (place ops[i]))) rows' fy' fa' fb'∧
  loop F Z [4,5,6,8,9,10,11,61,62,63] r368L0 (pst x y k5 k6 ops.length p.hd i g)=loop F Z [4,5,6,8,9,10,11,61,62,63] r368L0 (pst x y' k5 k6 ops.length ((p.loses (place ops[i])).takes (HandMsg.at_ p.net (place ops[i]))).hd (i+1) g'):=by
 have wg:=w.on J.net.on
 have hlt:(i:Int)<ops.length:=by omega
 have hws:=wrapS i (by omega)
 have hix:=wg.idx hi
 have hld:=wg.load hi
 have hlen:=J.net.sl.len
 have hrl:=J.net.len
 have hcap:=J.ok.net.1
 generalize ops[i]=o at *
 have hn0:(o==0)=false:=by simpa using ho
 have bq:=fun a=>b_quo .i64 a 3 (by omega)
 have br:=fun a=>b_rem .i64 a 3 (by omega)
 obtain ⟨q1,q2⟩:=place_eq hneg ho hb
 have hge: ¬(rows.length:Int)≤((place o:Nat):Int):=by omega
 have hge': ¬((place o:Nat):Int)≥(rows.length:Int):=hge
 have h30:(o.tmod 3==0)=false:=by simpa using h3
 have h32:(o.tmod 3==2)=false:=by simpa using h4
 have hokm:=J.ok.at_ hk
 generalize place o=kk at *
 have hwk:=wrapS kk (by omega)
 obtain ⟨r,f,hr,vr,hfr⟩:=J.net.el kk p.net[kk] (List.getElem?_eq_getElem hk)
 have hkr:kk<rows.length:=by omega
 have hrk:rows[kk]=r:=by
  rw[List.getElem?_eq_getElem hkr] at hr;injection hr
 have hmx:=J.net.sl.idx hkr
 have hml:=J.net.sl.load hkr
 simp only[hrk] at hml
 rw[HandMsg.at_get hk] at hokm ⊢
 obtain ⟨z,g1,fz,ed,net',re⟩:=J.net.del HandMsg.okI hf hk
 have ec:=(prm _ _).trans ed
 have J1:IP h0 g1 k5 k6 z ca cb (p.loses kk) (rows.eraseIdx kk) fz fa fb:=J.re re net' (J.ok.loses kk)
 have v1:HandMsg.RI g1 r p.net[kk] f:=HandMsg.okI.mv vr re.le fun id hid=>re.get id (HandMsg.okI.lt vr id hid) (hfr id hid).2.1
 have hks: ∀id,id∈f→id≠k5∧id≠k6:=fun id hid=>by
  have:=(hfr id hid).2.2
  simpa using this
 generalize p.net[kk]=m at *
 have hhd:(p.loses kk).hd=p.hd:=rfl
 rw[←hhd]
 generalize p.loses kk=P at *
 clear re net' J wg
 obtain ⟨b1,b2,b3⟩:=HandMsg.lenI v1
 have hg1:=J1.net.on.le hf
 obtain ⟨mx1,mx2,hmr⟩: ∃c1 c2,r=[.int .i64 m.step,.int .u64 m.lo,.int .i64 m.to,.int .i64 m.epoch,.int .u64 m.shard.lo,.int .u64 m.shard.hi,.int .i64 m.shard.state,.int .i64 m.shard.epoch,c1,c2]:=by
  obtain ⟨c1,_,c2,_,e,_⟩:=v1
  exact ⟨c1,c2,e⟩
 subst hmr
 clear b1 b2 b3
 unfold Play.takes Play.goes
 by_cases hto:m.to=P.hd.from_
 ·have hto':(m.to==P.hd.from_)=true:=by simpa using hto
  obtain ⟨l1,l2,l3⟩:=Store.lenI J1.va
  obtain ⟨cs,hq,fq,e2,o2,v2,f2⟩:=handTake_c (Z:=Z) (h:=⟨g1.next,g1.next,g1.get⟩) k hI15 hL prd pri (Nat.le_refl _) (Store.okI.up J1.va _) (HandMsg.okI.up v1 _) J1.ok.a.1 J1.ok.a.2 hokm.1 hokm.2
  have p2:=quiet_go o2
  have w2:=Store.okI.up v2 g1.floor
  obtain ⟨g2,m2⟩: ∃g',Heap.mk hq.next g1.floor hq.get=g':=⟨_,rfl⟩
  rw[m2] at p2 w2
  obtain ⟨a1,a2,a3⟩:=Store.lenI w2
  have J2:=J1.go p2
  have J3:=J1.setA p2 w2 ⟨f2.lo,f2.nd⟩ ⟨J1.ok.hd,⟨handTake_ok J1.ok.a.1 hokm.1,handTake_small J1.ok.a.2 hokm.2⟩,J1.ok.b,J1.ok.net⟩
  have ld:=fun j n=>loadP_row J1.ra (i:=0) rfl j n
  have st:=store_row (new:=cs) (by have:=J2.net.on.fl;have:=J2.lo;omega) J2.ra (by rw[l1,a1])
  have v3:=HandMsg.okI.mv (HandMsg.okI.on v1 p2) (h':=g2.put k5 [cs]) (Nat.le_refl _) fun id hid=>put_ne _ (hks id hid).1
  have e3:=handDone_run (Z:=Z) k.i11 hI15 P.hd v3
  simp only[Hand.enc] at e3
  cases ht:(handTake P.a m).2 with
  | false=>
    simp only[ht] at e2
    simp only[hto',cond_true,cond_false]
    refine ⟨_,_,_,_,_,_,_,_,J3,?_⟩
    simp only[pst,Hand.enc]
    rw[loop_run]
    conv in (codeF _ _ r368L0 _)=>unfold r368L0
    simp only[rn,RO.dst,lk,drop,Nat.reduceBEq,Nat.reduceAdd,Nat.reduceLeDiff,↓reduceIte,reduceCtorEq,List.replicate_succ,List.replicate_zero,fills,and_self,List.set_cons_zero,List.set_cons_succ,Nat.reduceLT,Nat.zero_lt_succ,Nat.zero_lt_one,hlt,hix,hld,int_enc,hn0,bq,br,hneg,q1,q2,hlen,hge,hge',hmx,hml,h30,h32,hwk,ec,hto',ld,l1,l2,l3,e2,m2,a1,a2,a3,st,hws]
  | true=>
    simp only[ht] at e2
    simp only[hto',cond_true,cond_false]
    refine ⟨_,_,_,_,_,_,_,_,J3.setH ⟨Hand.done_ok J3.ok.hd _ _ _,J3.ok.a,J3.ok.b,J3.ok.net⟩,?_⟩
    simp only[pst,Hand.enc]
    rw[loop_run]
    conv in (codeF _ _ r368L0 _)=>unfold r368L0
    simp only[rn,RO.dst,lk,drop,Nat.reduceBEq,Nat.reduceAdd,Nat.reduceLeDiff,↓reduceIte,reduceCtorEq,List.replicate_succ,List.replicate_zero,fills,and_self,List.set_cons_zero,List.set_cons_succ,Nat.reduceLT,Nat.zero_lt_succ,Nat.zero_lt_one,hlt,hix,hld,int_enc,hn0,bq,br,hneg,q1,q2,hlen,hge,hge',hmx,hml,h30,h32,hwk,ec,hto',ld,l1,l2,l3,e2,m2,a1,a2,a3,st,e3,hws]
 ·have hto':(m.to==P.hd.from_)=false:=by simpa using hto
  obtain ⟨l1,l2,l3⟩:=Store.lenI J1.vb
  obtain ⟨cs,hq,fq,e2,o2,v2,f2⟩:=handTake_c (Z:=Z) (h:=⟨g1.next,g1.next,g1.get⟩) k hI15 hL prd pri (Nat.le_refl _) (Store.okI.up J1.vb _) (HandMsg.okI.up v1 _) J1.ok.b.1 J1.ok.b.2 hokm.1 hokm.2
  have p2:=quiet_go o2
  have w2:=Store.okI.up v2 g1.floor
  obtain ⟨g2,m2⟩: ∃g',Heap.mk hq.next g1.floor hq.get=g':=⟨_,rfl⟩
  rw[m2] at p2 w2
  obtain ⟨a1,a2,a3⟩:=Store.lenI w2
  have J2:=J1.go p2
  have J3:=J1.setB p2 w2 ⟨f2.lo,f2.nd⟩ ⟨J1.ok.hd,J1.ok.a,⟨handTake_ok J1.ok.b.1 hokm.1,handTake_small J1.ok.b.2 hokm.2⟩,J1.ok.net⟩
  have ld:=fun j n=>loadP_row J1.rb (i:=0) rfl j n
  have st:=store_row (new:=cs) (by have:=J2.net.on.fl;have:=J2.lo;omega) J2.rb (by rw[l1,a1])
  have v3:=HandMsg.okI.mv (HandMsg.okI.on v1 p2) (h':=g2.put k6 [cs]) (Nat.le_refl _) fun id hid=>put_ne _ (hks id hid).2
  have e3:=handDone_run (Z:=Z) k.i11 hI15 P.hd v3
  simp only[Hand.enc] at e3
  cases ht:(handTake P.b m).2 with
  | false=>
    simp only[ht] at e2
    simp only[hto',cond_true,cond_false]
    refine ⟨_,_,_,_,_,_,_,_,J3,?_⟩
    simp only[pst,Hand.enc]
    rw[loop_run]
    conv in (codeF _ _ r368L0 _)=>unfold r368L0
    simp only[rn,RO.dst,lk,drop,Nat.reduceBEq,Nat.reduceAdd,Nat.reduceLeDiff,↓reduceIte,reduceCtorEq,List.replicate_succ,List.replicate_zero,fills,and_self,List.set_cons_zero,List.set_cons_succ,Nat.reduceLT,Nat.zero_lt_succ,Nat.zero_lt_one,hlt,hix,hld,int_enc,hn0,bq,br,hneg,q1,q2,hlen,hge,hge',hmx,hml,h30,h32,hwk,ec,hto',ld,l1,l2,l3,e2,m2,a1,a2,a3,st,hws]
  | true=>
    simp only[ht] at e2
    simp only[hto',cond_true,cond_false]
    refine ⟨_,_,_,_,_,_,_,_,J3.setH ⟨Hand.done_ok J3.ok.hd _ _ _,J3.ok.a,J3.ok.b,J3.ok.net⟩,?_⟩
    simp only[pst,Hand.enc]
    rw[loop_run]
    conv in (codeF _ _ r368L0 _)=>unfold r368L0
    simp only[rn,RO.dst,lk,drop,Nat.reduceBEq,Nat.reduceAdd,Nat.reduceLeDiff,↓reduceIte,reduceCtorEq,List.replicate_succ,List.replicate_zero,fills,and_self,List.set_cons_zero,List.set_cons_succ,Nat.reduceLT,Nat.zero_lt_succ,Nat.zero_lt_one,hlt,hix,hld,int_enc,hn0,bq,br,hneg,q1,q2,hlen,hge,hge',hmx,hml,h30,h32,hwk,ec,hto',ld,l1,l2,l3,e2,m2,a1,a2,a3,st,e3,hws]
end
end Go.Proofs.Ytjaideekkbpalaa.A
namespace Go.Proofs.Ytjaideekkbpalaa.A
open Go
set_option linter.unusedSimpArgs false
set_option linter.unusedVariables false
section
variable {F:Nat→Option RF} {Z:CallF} {h h0 g:Heap} {k5 k6:Nat} {x y:Cell} {ca cb:List Cell} {p:Play} {rows:List (List Cell)} {fy fa fb fo:List Nat} {ops:List Int} {A B:Store}
theorem play_turn (k:KI F) (hI15:Has F tI15) (hL:Has F tLibslicesIndexFuncimplShardimplShard) (prd:PrimAt F Z 330 (delF 16)) (pri:PrimAt F Z 332 (insF 16 80)) (prm:PrimAt F Z 376 (delF 22)) (hf:h0.floor≤h0.next) (J:IP h0 g k5 k6 y ca cb p rows fy fa fb) (w:Vw 15 int_enc h0 x ops) {i:Nat} (hi:i<ops.length) (hl:ops.length≤200) (hb:ops[i]≤9223372036854775807):
 ∃g' y' ca' cb' rows' fy' fa' fb',IP h0 g' k5 k6 y' ca' cb' (p.step ops[i]) rows' fy' fa' fb'∧
  loop F Z [4,5,6,8,9,10,11,61,62,63] r368L0 (pst x y k5 k6 ops.length p.hd i g)=loop F Z [4,5,6,8,9,10,11,61,62,63] r368L0 (pst x y' k5 k6 ops.length (p.step ops[i]).hd (i+1) g'):=by
 unfold Play.step
 split
 ·rename_i ho
  obtain ⟨g',y',rows',fy',J',e⟩:=play_send (F:=F) (Z:=Z) k hI15 hL hf J w hi hl ho
  exact ⟨g',y',ca,cb,rows',fy',fa,fb,J',e⟩
 rename_i ho
 split
 ·rename_i hp
  exact ⟨g,y,ca,cb,rows,fy,fa,fb,J,play_pass (F:=F) (Z:=Z) J w hi hl ho hb hp⟩
 rename_i hp
 have hneg: ¬ops[i]<0:=fun h=>hp (.inl h)
 have hk:place ops[i]<p.net.length:=by omega
 split
 ·rename_i h3
  obtain ⟨g',y',rows',fy',J',e⟩:=play_copy (F:=F) (Z:=Z) hf J w hi hl ho hb hneg hk h3
  exact ⟨g',y',ca,cb,rows',fy',fa,fb,J',e⟩
 rename_i h3
 split
 ·rename_i h4
  obtain ⟨g',y',rows',fy',J',e⟩:=play_lose (F:=F) (Z:=Z) prm hf J w hi hl ho hb hneg hk h4
  exact ⟨g',y',ca,cb,rows',fy',fa,fb,J',e⟩
 ·rename_i h4
  exact play_take (F:=F) (Z:=Z) k hI15 hL prd pri prm hf J w hi hl ho hb hneg hk h3 h4
set_option maxHeartbeats 8000000 in
theorem PlayHand_c (k:KI F) (hI15:Has F tI15) (hL:Has F tLibslicesIndexFuncimplShardimplShard) (prd:PrimAt F Z 330 (delF 16)) (pri:PrimAt F Z 332 (insF 16 80)) (prm:PrimAt F Z 376 (delF 22)) (hf:h.floor≤h.next) (H:Hand) (okH:H.Ok) (va:Store.RI h ca A fa) (vb:Store.RI h cb B fb) (w:Vw 15 int_enc h x ops) (okA:A.Ok) (smA:A.Small) (okB:B.Ok) (smB:B.Small) (hb: ∀z,z∈ops→z≤9223372036854775807):
 ∃ca' cb' h' f1 f2,call F Z 368 [.agg H.enc,.agg ca,.agg cb,.c x] h=some (.tup [.agg (playHand H A B ops).1.enc,.agg ca',.agg cb'],h')∧On h h'∧Store.RI h' ca' (playHand H A B ops).2.1 f1∧Store.RI h' cb' (playHand H A B ops).2.2 f2∧Fre h f1∧Fre h f2∧ ∀id,id∈f1→id∉f2:=by
 obtain ⟨l1,l2,l3⟩:=Store.lenI va
 obtain ⟨n1,n2,n3⟩:=Store.lenI vb
 -- two rows for the two stores
 obtain ⟨k5,hk5⟩: ∃k,h.next=k:=⟨_,rfl⟩
 have o1:=On.push h [ca]
 have ga:(h.push [ca]).get k5=some [ca]:=by rw[←hk5];exact push_get _ _
 have hn1:(h.push [ca]).next=k5+1:=by rw[←hk5];rfl
 obtain ⟨h1,m1⟩: ∃h1,h.push [ca]=h1:=⟨_,rfl⟩
 rw[m1] at o1 ga hn1
 have o2:=On.push h1 [cb]
 have gb:(h1.push [cb]).get (k5+1)=some [cb]:=by rw[←hn1];exact push_get _ _
 obtain ⟨h2,m2⟩: ∃h2,h1.push [cb]=h2:=⟨_,rfl⟩
 have hn2:h2.next=k5+1+1:=by rw[←m2,←hn1];rfl
 rw[m2] at o2 gb
 have ga2:=(o2.ext.2 k5 (by omega)).trans ga
 have o12:=o1.trans o2
 -- copies
 obtain ⟨c1,h3,f3,e3,o3,v3,r3⟩:=copyStore_c (Z:=Z) k (o12.le hf) (Store.okI.on va o12) smA
 obtain ⟨a1,a2,a3⟩:=Store.lenI v3
 have ga3:=(o3.ext.2 k5 (by omega)).trans ga2
 have gb3:=(o3.ext.2 (k5+1) (by omega)).trans gb
 have on3:=o12.trans o3
 have st5:=store_row (new:=c1) (by have:=on3.fl;omega) ga3 (by rw[l1,a1])
 obtain ⟨h4,m4⟩: ∃h4,h3.put k5 [c1]=h4:=⟨_,rfl⟩
 have on4:On h h4:=by rw[←m4];exact on3.put_ (by omega) _
 have nx3:=o3.ext.1
 have nx4:h4.next=h3.next:=by rw[←m4];rfl
 have lt3: ∀id,id∈f3→id<h3.next:=Store.okI.lt v3
 have ga4:h4.get k5=some [c1]:=by rw[←m4];simp[Heap.put]
 have gb4:h4.get (k5+1)=some [cb]:=by rw[←m4,put_ne _ (by omega)];exact gb3
 have v4:Store.RI h4 c1 A f3:=by rw[←m4];exact Store.okI.mv v3 (Nat.le_refl _) fun id hid=>put_ne _ (by have:=r3.lo id hid;omega)
 rw[m4] at st5
 obtain ⟨c2,h5,f5,e5,o5,v5,r5⟩:=copyStore_c (Z:=Z) k (on4.le hf) (Store.okI.on vb on4) smB
 obtain ⟨b1,b2,b3⟩:=Store.lenI v5
 have ga5:=(o5.ext.2 k5 (by omega)).trans ga4
 have gb5:=(o5.ext.2 (k5+1) (by omega)).trans gb4
 have on5:=on4.trans o5
 have st6:=store_row (new:=c2) (by have:=on5.fl;omega) gb5 (by rw[n1,b1])
 obtain ⟨h6,m6⟩: ∃h6,h5.put (k5+1) [c2]=h6:=⟨_,rfl⟩
 have on6:On h h6:=by rw[←m6];exact on5.put_ (by omega) _
 have nx5:=o5.ext.1
 have nx6:h6.next=h5.next:=by rw[←m6];rfl
 have ga6:h6.get k5=some [c1]:=by rw[←m6,put_ne _ (by omega)];exact ga5
 have gb6:h6.get (k5+1)=some [c2]:=by rw[←m6];simp[Heap.put]
 have v6:Store.RI h6 c1 A f3:=by rw[←m6];exact Store.okI.mv (Store.okI.on v4 o5) (Nat.le_refl _) fun id hid=>put_ne _ (by have:=r3.lo id hid;omega)
 have w6:Store.RI h6 c2 B f5:=by rw[←m6];exact Store.okI.mv v5 (Nat.le_refl _) fun id hid=>put_ne _ (by have:=r5.lo id hid;omega)
 rw[m6] at st6
 -- are they right?
 obtain ⟨z1,hz1⟩: ∃z1,c1=[.int .i64 A.group,.int .i64 A.seen,z1]:=by obtain ⟨z1,_,e1,_⟩:=v3;exact ⟨z1,e1⟩
 obtain ⟨z2,hz2⟩: ∃z2,c2=[.int .i64 B.group,.int .i64 B.seen,z2]:=by obtain ⟨z2,_,e2,_⟩:=v5;exact ⟨z2,e2⟩
 subst hz1 hz2
 have e6:=isHand_run (Z:=Z) k.i11 hI15 H.lo H.from_ H.to H.epoch H.phase h6
 rw[show handOk H.lo H.from_ H.to H.epoch H.phase=H.ok from rfl] at e6
 obtain ⟨h7,e7,o7⟩:=isStore_run (Z:=Z) k v6 okA
 obtain ⟨h8,e8,o8⟩:=isStore_run (Z:=Z) k (Store.okI.on w6 o7) okB
 have o68:=o7.trans o8
 have lt: ∀{gx:Heap},On h6 gx→gx.get k5=some [[.int .i64 A.group,.int .i64 A.seen,z1]]∧gx.get (k5+1)=some [[.int .i64 B.group,.int .i64 B.seen,z2]]:=fun o=>⟨(o.ext.2 k5 (by omega)).trans ga6,(o.ext.2 (k5+1) (by omega)).trans gb6⟩
 have ld2:=fun j n=>loadP_row ga2 (i:=0) rfl j n
 have ld4:=fun j n=>loadP_row gb4 (i:=0) rfl j n
 have ld6a:=fun j n=>loadP_row ga6 (i:=0) rfl j n
 have ld6b:=fun j n=>loadP_row gb6 (i:=0) rfl j n
 have ld7a:=fun j n=>loadP_row (lt o7).1 (i:=0) rfl j n
 have ld7b:=fun j n=>loadP_row (lt o7).2 (i:=0) rfl j n
 have ld8a:=fun j n=>loadP_row (lt o68).1 (i:=0) rfl j n
 have ld8b:=fun j n=>loadP_row (lt o68).2 (i:=0) rfl j n
 have fr3:Fre h f3:=⟨fun id hid=>by have:=r3.lo id hid;omega,r3.nd⟩
 have fr5:Fre h f5:=⟨fun id hid=>by have:=r5.lo id hid;omega,r5.nd⟩
 have dj: ∀id,id∈f3→id∉f5:=fun id h1 h2=>by have:=lt3 id h1;have:=r5.lo id h2;omega
 have bad: ∀{gx:Heap},On h6 gx→playHand H A B ops=(H,A,B)→ ∃ca' cb' h' f1 f2,some (V.tup [V.agg H.enc,V.agg [.int .i64 A.group,.int .i64 A.seen,z1],V.agg [.int .i64 B.group,.int .i64 B.seen,z2]],gx)=some (.tup [.agg (playHand H A B ops).1.enc,.agg ca',.agg cb'],h')∧On h h'∧Store.RI h' ca' (playHand H A B ops).2.1 f1∧Store.RI h' cb' (playHand H A B ops).2.2 f2∧Fre h f1∧Fre h f2∧ ∀id,id∈f1→id∉f2:=fun {gx} o e=>by
  rw[e];exact ⟨_,_,_,f3,f5,rfl,on6.trans o,Store.okI.on v6 o,Store.okI.on w6 o,fr3,fr5,dj⟩
 have hdef:playHand H A B ops=bif H.ok&&(A.good&&(B.good&&(A.group==H.from_&&(B.group==H.to&&decide (ops.length≤200))))) then ((ops.foldl Play.step ⟨H,A,B,[]⟩).hd,(ops.foldl Play.step ⟨H,A,B,[]⟩).a,(ops.foldl Play.step ⟨H,A,B,[]⟩).b) else (H,A,B):=rfl
 have hwl:=w.len
 simp only[Hand.enc] at bad e6
 rw[call_run F Z (hI15.lk (g:=368) rfl) _ _ rfl]
 simp only[Hand.enc]
 cases q1:H.ok with
 | false=>
   rw[q1] at e6
   simp only[rn,RO.dst,lk,drop,Nat.reduceBEq,Nat.reduceAdd,Nat.reduceLeDiff,↓reduceIte,reduceCtorEq,hk5,m1,hn1,m2,ld2,l1,l2,l3,e3,st5,ld4,n1,n2,n3,e5,st6,e6,ld6a,ld6b]
   exact bad (On.refl _) (by rw[hdef,q1];rfl)
 | true=>
 rw[q1] at e6
 cases q2:A.good with
 | false=>
   rw[q2] at e7
   simp only[rn,RO.dst,lk,drop,Nat.reduceBEq,Nat.reduceAdd,Nat.reduceLeDiff,↓reduceIte,reduceCtorEq,hk5,m1,hn1,m2,ld2,l1,l2,l3,e3,st5,ld4,n1,n2,n3,e5,st6,e6,ld6a,e7,ld7a,ld7b]
   exact bad o7 (by rw[hdef,q1,q2];rfl)
 | true=>
 rw[q2] at e7
 cases q3:(A.group==H.from_) with
 | false=>
   have q3':(A.group !=H.from_)=true:=by simp only[bne,q3,Bool.not_false]
   simp only[rn,RO.dst,lk,drop,Nat.reduceBEq,Nat.reduceAdd,Nat.reduceLeDiff,↓reduceIte,reduceCtorEq,hk5,m1,hn1,m2,ld2,l1,l2,l3,e3,st5,ld4,n1,n2,n3,e5,st6,e6,ld6a,e7,ld7a,ld7b,q3']
   exact bad o7 (by rw[hdef,q1,q2,q3];simp)
 | true=>
 have q3':(A.group !=H.from_)=false:=by simp only[bne,q3,Bool.not_true]
 cases q4:B.good with
 | false=>
   rw[q4] at e8
   simp only[rn,RO.dst,lk,drop,Nat.reduceBEq,Nat.reduceAdd,Nat.reduceLeDiff,↓reduceIte,reduceCtorEq,hk5,m1,hn1,m2,ld2,l1,l2,l3,e3,st5,ld4,n1,n2,n3,e5,st6,e6,ld6a,e7,ld7a,ld7b,q3',e8,ld8a,ld8b]
   exact bad o68 (by rw[hdef,q1,q2,q4];simp)
 | true=>
 rw[q4] at e8
 cases q5:(B.group==H.to) with
 | false=>
   have q5':(B.group !=H.to)=true:=by simp only[bne,q5,Bool.not_false]
   simp only[rn,RO.dst,lk,drop,Nat.reduceBEq,Nat.reduceAdd,Nat.reduceLeDiff,↓reduceIte,reduceCtorEq,hk5,m1,hn1,m2,ld2,l1,l2,l3,e3,st5,ld4,n1,n2,n3,e5,st6,e6,ld6a,e7,ld7a,ld7b,q3',e8,ld8a,ld8b,q5']
   exact bad o68 (by rw[hdef,q1,q2,q4,q5];simp)
 | true=>
 have q5':(B.group !=H.to)=false:=by simp only[bne,q5,Bool.not_true]
 by_cases q6:ops.length≤200
 rotate_left
 ·have q6':(ops.length:Int)>200:=by omega
  simp only[rn,RO.dst,lk,drop,Nat.reduceBEq,Nat.reduceAdd,Nat.reduceLeDiff,↓reduceIte,reduceCtorEq,hk5,m1,hn1,m2,ld2,l1,l2,l3,e3,st5,ld4,n1,n2,n3,e5,st6,e6,ld6a,e7,ld7a,ld7b,q3',e8,ld8a,ld8b,q5',hwl,q6']
  exact bad o68 (by rw[hdef,decide_eq_false q6];simp)
 have q6': ¬(ops.length:Int)>200:=by omega
 have hyes:playHand H A B ops=((ops.foldl Play.step ⟨H,A,B,[]⟩).hd,(ops.foldl Play.step ⟨H,A,B,[]⟩).a,(ops.foldl Play.step ⟨H,A,B,[]⟩).b):=by
  rw[hdef,q1,q2,q3,q4,q5,decide_eq_true q6];rfl
 rw[hyes]
 clear bad
 -- the loop
 have on8:=on6.trans o68
 obtain ⟨on0,fy0,s0,fr0⟩:=Acc.lit0 (tag:=22) on8
 have hy0: ∀id,id∈fy0→id=h8.next:=fun id hid=>by
  rcases s0.flat with ⟨e,_⟩ | ⟨_,_,_,e⟩
  ·cases e
  ·rw[e] at hid;simpa[Cell.sid] using hid
 have nx8:=o68.ext.1
 have op:=On.push h8 []
 have J0:IP h (h8.push []) k5 (k5+1) (.sl 22 h8.next 0 0) [.int .i64 A.group,.int .i64 A.seen,z1] [.int .i64 B.group,.int .i64 B.seen,z2] ⟨H,A,B,[]⟩ [] fy0 f3 f5:=
  {net:={sl:=s0,fre:=fr0,on:=on0,len:=rfl,ky:=fun kk hkk=>by simp only[List.mem_cons,List.not_mem_nil,or_false] at hkk;exact ⟨fun hh=>by have:=hy0 kk hh;omega,by show kk<h8.next+1;omega⟩,el:=fun i b hh=>by simp at hh}
   ra:=(op.ext.2 k5 (by omega)).trans (lt o68).1
   rb:=(op.ext.2 (k5+1) (by omega)).trans (lt o68).2
   va:=Store.okI.on v6 (o68.trans op)
   vb:=Store.okI.on w6 (o68.trans op)
   fra:=fr3
   frb:=fr5
   sa:=fun id hid=>⟨fun hh=>by have:=hy0 id hh;have:=lt3 id hid;omega,fun hh=>by
    have:=r3.lo id hid
    simp only[List.mem_cons,List.not_mem_nil,or_false] at hh
    omega⟩
   sb:=fun id hid=>⟨fun hh=>by have:=hy0 id hh;have:=Store.okI.lt v5 id hid;omega,fun hh=>by
    have:=r5.lo id hid
    simp only[List.mem_cons,List.not_mem_nil,or_false] at hh
    omega⟩
   dj:=dj
   ne:=by omega
   lo:=by omega
   ok:=⟨okH,⟨okA,smA⟩,⟨okB,smB⟩,by simp,fun m hm=>nomatch hm⟩}
 obtain ⟨s',⟨gn,yn,can,cbn,rnn,fyn,fan,fbn,rfl,Jn⟩,key⟩:=loop_goes (F:=F) (Z:=Z) (live:=[4,5,6,8,9,10,11,61,62,63]) (b:=r368L0) ops.length (fun i s=> ∃g y ca cb rows fy fa fb,s=pst x y k5 (k5+1) ops.length ((ops.take i).foldl Play.step ⟨H,A,B,[]⟩).hd i g∧IP h g k5 (k5+1) y ca cb ((ops.take i).foldl Play.step ⟨H,A,B,[]⟩) rows fy fa fb) (fun i s hi ⟨g,y,ca,cb,rows,fy,fa,fb,hs,J⟩=>by
  subst hs
  obtain ⟨g',y',ca',cb',rows',fy',fa',fb',J',e⟩:=play_turn (F:=F) (Z:=Z) k hI15 hL prd pri prm hf J w hi q6 (hb _ (List.getElem_mem hi))
  have ht:(ops.take (i+1)).foldl Play.step ⟨H,A,B,[]⟩=((ops.take i).foldl Play.step ⟨H,A,B,[]⟩).step ops[i]:=by
   rw[List.take_add_one,List.getElem?_eq_getElem hi,List.foldl_append];rfl
  rw[←ht] at J' e
  exact ⟨_,⟨g',y',ca',cb',rows',fy',fa',fb',rfl,J'⟩,e⟩) (s:=pst x (.sl 22 h8.next 0 0) k5 (k5+1) ops.length H 0 (h8.push [])) ⟨_,_,_,_,_,_,_,_,rfl,J0⟩
 rw[List.take_length] at Jn key
 generalize ops.foldl Play.step ⟨H,A,B,[]⟩=P at *
 obtain ⟨t1,t2,t3⟩:=Store.lenI Jn.va
 obtain ⟨u1,u2,u3⟩:=Store.lenI Jn.vb
 have lda:=fun j n=>loadP_row Jn.ra (i:=0) rfl j n
 have ldb:=fun j n=>loadP_row Jn.rb (i:=0) rfl j n
 have hlt: ¬(ops.length:Int)<ops.length:=by omega
 simp only[pst,Hand.enc,show ((0:Nat):Int)=0 from rfl] at key
 simp only[rn,RO.dst,lk,drop,Nat.reduceBEq,Nat.reduceAdd,Nat.reduceLeDiff,↓reduceIte,reduceCtorEq,List.replicate_succ,List.replicate_zero,fills,and_self,List.set_cons_zero,List.set_cons_succ,Nat.reduceLT,Nat.zero_lt_succ,Nat.zero_lt_one,hk5,m1,hn1,m2,ld2,l1,l2,l3,e3,st5,ld4,n1,n2,n3,e5,st6,e6,ld6a,e7,ld7a,ld7b,q3',e8,ld8a,ld8b,q5',hwl,q6',key]
 rw[loop_run]
 conv in (codeF _ _ r368L0 _)=>unfold r368L0
 simp only[rn,RO.dst,lk,drop,Nat.reduceBEq,Nat.reduceAdd,Nat.reduceLeDiff,↓reduceIte,reduceCtorEq,hlt,lda,ldb,t1,t2,t3,u1,u2,u3]
 exact ⟨_,_,_,_,_,rfl,Jn.net.on,Jn.va,Jn.vb,Jn.fra,Jn.frb,Jn.dj⟩
end
end Go.Proofs.Ytjaideekkbpalaa.A
namespace Go.Proofs.Ytjaideekkbpalaa.A
open Go
set_option linter.unusedSimpArgs false
set_option linter.unusedVariables false
section
variable {F:Nat→Option RF} {Z:CallF} {h:Heap} {x:Cell} {code:List Int}
theorem big_run (hL:Has F tLaws) (w:Vw 19 byte_enc h x code):call F Z 144 [.c x] h=some (.c (.bool (decide ((code.length:Int)>1048576))),h):=by
 rw[call_run F Z (hL.lk (g:=144) rfl) _ _ rfl]
 simp only[rn,RO.dst,lk,drop,Nat.reduceBEq,Nat.reduceAdd,Nat.reduceLeDiff,↓reduceIte,reduceCtorEq,w.len]
end
end Go.Proofs.Ytjaideekkbpalaa.A
namespace Go.Proofs.Ytjaideekkbpalaa.A
open Go
set_option linter.unusedSimpArgs false
set_option linter.unusedVariables false
def Byte (b:Int):Prop:=0≤b∧b≤255
theorem Wf.areBytes {h:Heap} {n:Nat} {x:Cell} (w:Wf h (n+2) shUint8S [x]): ∃code:List Int,Vw 19 byte_enc h x code∧ ∀b,b∈code→Byte b:=by
 obtain ⟨xs,fp,v,q⟩:=SlR.ofWf (R:=Fl byte_enc) (A:=Byte) (fun r hr=>by
  obtain ⟨hl,z,rfl,hz⟩:=hr
  refine ⟨z,[],⟨rfl,rfl⟩,?_⟩
  simp only[Lit.wf,Bool.and_eq_true,decide_eq_true_eq] at hz
  exact hz) w
 exact ⟨xs,v.vw,q⟩
section
variable {F:Nat→Option RF} {Z:CallF} {h:Heap} {x:Cell} {code:List Int}
end
end Go.Proofs.Ytjaideekkbpalaa.A
