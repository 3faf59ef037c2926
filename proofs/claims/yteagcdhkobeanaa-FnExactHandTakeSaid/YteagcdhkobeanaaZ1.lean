/- slices.Insert, of elements of so many cells: in place, and at the end; over any program that has its text. -/
import Derived.Test.YteagcdhkobeanaaA0
import Derived.Shelf.Spec.SlicesInsertGrow
import Derived.Shelf.SlicesE.Delete
import Derived.Laws.CopyRow
import Derived.Maps.AppendAt
set_option linter.unusedVariables false
set_option linter.unusedSimpArgs false
namespace Go.Proofs.Yteagcdhkobeanaa.Z
open Go Go.Shelf Go.RowKit Go.Lib Go.Proofs
variable {P:Program} {ρ:Ren}
/-- What slices.Insert asks of a program: its text, its types, an element of k cells. -/
structure InsT (P:Program) (ρ:Ren) (k bytes:Nat) (z:Value):Prop where
 mixed:P.follows .mixedOrders=true
 f22:Bears P (ρ.f 22) (Body2.n22 ρ)
 f29 : ∃ fn, P.funcs[ρ.f 29]? = some fn ∧ fn.body.isNone = true ∧ (fn.name == "runtime.NumGoroutine") = false ∧ (Extern.findNext fn).isNone = true ∧ Extern.find fn = some (Extern.SlicesOverlaps.overlaps #[ρ.t 24, ρ.t 24] #[ρ.t 4])
 t3:P.underlying (ρ.t 3)=some (TypeDesc.int IntKind.i64)
 t4:P.underlying (ρ.t 4)=some (TypeDesc.bool)
 t24:P.underlying (ρ.t 24)=some (TypeDesc.slice (ρ.t 9))
 i9: ∃i0,P.info? (ρ.t 9)=some i0∧i0.size=k∧i0.bytes=bytes∧i0.zero=some z∧z.cells.size=k∧0<k
theorem InsT.z9 {k bytes:Nat} {z:Value} (T:InsT P ρ k bytes z): ∀w,(Go.sizeOf (ρ.t 9)).run P w= .ok k w:=fun w=>by
 obtain ⟨i0,h1,h2,_⟩:=T.i9
 simp[sizeOf,typeInfo,h1,h2]
theorem run_copy_k (w:World) (dT sT ty elem:TypeId) (k g o dLen dCap:Nat) (a:Addr) (sLen sCap:Nat) (cur:Array Value) (t:TypeId) (cs:List Value)
 (hu:P.underlying dT=some (.slice elem)) (hs:(P.info? elem).map (·.size)=some k)
 (hg:w.heap[g]? =some (.cells cur t (0,0))) (hn:cs.length=Nat.min sLen dLen*k)
 (hsrc: ∀j v,cs[j]? =some v→w.cell? (a.add j)=some v) (hfit:o+cs.length≤cur.size) (h1: ∀v∈cs,v.oneCell'=true):
 (Builtin.copy_ #[dT,sT] ty #[.slice (some ⟨g,o,none⟩) dLen dCap,.slice (some a) sLen sCap]).run P w=
  .ok (goInt (Nat.min sLen dLen)) (w.setRow g (cur.toList.take o++cs++cur.toList.drop (o+cs.length)).toArray):=by
 have hl:=run_loadCells_list (P:=P) w a cs hsrc
 have hst:=run_storeCells_at P g o t cs 0 cur w hg (by simpa using hfit) h1
 cases hq:P.info? elem with
 | none=>simp[hq] at hs
 | some i=>
   have hi:i.size=k:=by simpa[hq] using hs
   simp[Builtin.copy_,run_underlying hu,Builtin.lenOf,Builtin.firstCells,sizeOf,typeInfo,hq,hi,←hn,hl,hst]
theorem cell_of {w:World} {b:Nat} {cur:Array Value} {ty:TypeId} {fr:Nat×Nat} (h:w.heap[b]? =some (.cells cur ty fr)) (o:Nat):w.cell? ⟨b,o,none⟩=cur[o]? :=by simp[World.cell?,h]
theorem setRow_at {w:World} {b:Nat} {cur c':Array Value} {ty:TypeId} {fr:Nat×Nat} (h:w.heap[b]? =some (.cells cur ty fr)):(w.setRow b c').heap[b]? =some (.cells c' ty fr):=setRow_heap w b cur c' ty fr h
set_option maxHeartbeats 4000000 in
set_option maxRecDepth 100000 in
/-- There is room, and something stands behind: in place. -/
theorem ins_shift {k bytes:Nat} {z:Value} (T:InsT P ρ k bytes z) (b n c i vb voff m vc:Nat) (cur:Array Value) (ty:TypeId) (vs:List Value) (w:World) (hi:i<n) (hm:0<m) (hroom:n+m≤c) (hc63:c≤9223372036854775807) (hvb:vb≠b)
 (hb:w.heap[b]? =some (.cells cur ty (0,0))) (hsz:cur.size=c*k) (hvl:vs.length=m*k)
 (hvs: ∀j v,vs[j]? =some v→w.cell? ⟨vb,voff+j,none⟩=some v) (h1c: ∀j v,j<n*k→cur[j]? =some v→v.oneCell'=true) (h1v: ∀v∈vs,v.oneCell'=true)
 (tA tB:TypeId) (kA kB:Nat) (hsa:w.shape? vb=some (tA,kA)) (hsb:w.shape? b=some (tB,kB)) (hkB:kB≠0) (hfa:w.frozen? ⟨vb,voff,none⟩=false) (hfe:w.frozen? ⟨vb,kA,none⟩=false):
 Calls P (ρ.f 22) #[.slice (some ⟨b,0,none⟩) n c,.int .i64 i,.slice (some ⟨vb,voff,none⟩) m vc] w fun e w'=>
  e= .returned (.slice (some ⟨b,0,none⟩) (n+m) c)∧
  ∃C1 C2:Array Value,C1=(cur.toList.take ((i+m)*k)++(cur.toList.drop (i*k)).take ((n-i)*k)++cur.toList.drop ((i+m)*k+(n-i)*k)).toArray∧
   C2=(C1.toList.take (i*k)++vs++C1.toList.drop (i*k+m*k)).toArray∧w'=(w.drew.setRow b C1).setRow b C2:=by
 have mixed:=T.mixed
 have t3:=T.t3;have t4:=T.t4;have z9:=T.z9;have t24:=T.t24
 have u3:=run_underlying T.t3;have u4:=run_underlying T.t4;have u24:=run_underlying T.t24
 obtain ⟨i0,hi0,hik,hib,hiz,hzk,hk0⟩:=T.i9
 have hs9:(P.info? (ρ.t 9)).map (·.size)=some k:=by rw[hi0];simp[hik]
 have hz1: ¬((m:Int)=0):=by omega
 have hz2: ¬((i:Int)=(n:Int)):=by omega
 obtain ⟨fn,g1,g2,g3,g4,g5⟩:=T.f29
 have hov: ∀lb cb,(callFunc (ρ.f 29) #[.slice (some ⟨vb,voff,none⟩) m vc,.slice (some ⟨b,(i+m)*k,none⟩) lb cb]).run P w= .ok (.value (.bool false)) w:=fun lb cb=>by
  rw[run_callFunc_extern g1 g3 g2 (Option.isNone_iff_eq_none.1 g4) (e:=Extern.SlicesOverlaps.overlaps #[(ρ.t 24),(ρ.t 24)] #[(ρ.t 4)]) g5,
   Lib.run_overlaps_apart w (ρ.t 24) (ρ.t 4) (ρ.t 9) T.t24 k T.z9 ⟨vb,voff,none⟩ ⟨b,(i+m)*k,none⟩ m vc lb cb hvb tA tB kA kB hsa hsb hkB hfa hfe]
  rfl
 have hw1:IntKind.i64.wrap ((i:Int)+(m:Int))=(i:Int)+(m:Int):=by rw[IntKind.wrap_i64];omega
 have hb1:(0:Int)≤(i:Int)+(m:Int):=by omega
 have hin:i≤n:=by omega
 have htn:((i:Int)+(m:Int)).toNat=i+m:=by omega
 have hb2: ¬(c=i+m):=by omega
 have hb3:(i:Int)≤(n:Int)+(m:Int):=by omega
 have hb4: ¬(c=i):=by omega
 have k1:(i+m)*k=i*k+m*k:=Nat.add_mul ..
 have k2:(n-i)*k=n*k-i*k:=Nat.sub_mul ..
 have k3:i*k≤n*k:=Nat.mul_le_mul_right _ hin
 have k4:n*k+m*k≤c*k:=by rw[←Nat.add_mul];exact Nat.mul_le_mul_right _ hroom
 obtain ⟨cs,hcs⟩: ∃cs,cs=(cur.toList.drop (i*k)).take ((n-i)*k):=⟨_,rfl⟩
 have hdl:cs.length=(n-i)*k:=by rw[hcs,List.length_take,List.length_drop,Array.length_toList,hsz];omega
 obtain ⟨C1,hC1⟩: ∃C1:Array Value,C1=(cur.toList.take ((i+m)*k)++cs++cur.toList.drop ((i+m)*k+(n-i)*k)).toArray:=⟨_,rfl⟩
 have hC1s:C1.size=c*k:=by rw[hC1];simp only[List.size_toArray,List.length_append,List.length_take,List.length_drop,Array.length_toList,hdl,hsz];omega
 obtain ⟨C2,hC2⟩: ∃C2:Array Value,C2=(C1.toList.take (i*k)++vs++C1.toList.drop (i*k+m*k)).toArray:=⟨_,rfl⟩
 have hcp1: ∀ty' dc sc,(Builtin.copy_ #[(ρ.t 24),(ρ.t 24)] ty' #[.slice (some ⟨b,(i+m)*k,none⟩) (n+m-(i+m)) dc,.slice (some ⟨b,i*k,none⟩) (n+m-i) sc]).run P w.drew= .ok (goInt ((n-i:Nat):Int)) (w.drew.setRow b C1):=fun ty' dc sc=>by
  have hmin:Nat.min (n+m-i) (n+m-(i+m))=n-i:=by simp only[Nat.min_def];split<;>omega
  have:=run_copy_k (P:=P) w.drew (ρ.t 24) (ρ.t 24) ty' (ρ.t 9) k b ((i+m)*k) (n+m-(i+m)) dc ⟨b,i*k,none⟩ (n+m-i) sc cur ty cs T.t24 hs9 hb (by rw[hmin,hdl])
   (fun j v hj=>by
    rw[Addr.add_lit]
    have:=cell_of hb (i*k+j)
    rw[hcs,List.getElem?_take] at hj
    split at hj
    ·rw[List.getElem?_drop,Array.getElem?_toList] at hj
     exact this.trans hj
    ·cases hj)
   (by rw[hdl,hsz];omega)
   (fun v hv=>by
    obtain ⟨j,hj⟩:=List.mem_iff_getElem?.1 hv
    rw[hcs,List.getElem?_take] at hj
    split at hj
    ·rename_i hjl
     rw[List.getElem?_drop,Array.getElem?_toList] at hj
     exact h1c _ v (by omega) hj
    ·cases hj)
  rw[hmin,hdl,←hC1] at this
  exact this
 have hcp2: ∀(W:World),W.heap=(w.setRow b C1).heap→ ∀ty' dc,(Builtin.copy_ #[(ρ.t 24),(ρ.t 24)] ty' #[.slice (some ⟨b,i*k,none⟩) (n+m-i) dc,.slice (some ⟨vb,voff,none⟩) m vc]).run P W= .ok (goInt m) (W.setRow b C2):=fun W hW ty' dc=>by
  have hmin:Nat.min m (n+m-i)=m:=by simp only[Nat.min_def];split<;>omega
  have hWb:W.heap[b]? =some (.cells C1 ty (0,0)):=by rw[hW];exact setRow_at hb
  have:=run_copy_k (P:=P) W (ρ.t 24) (ρ.t 24) ty' (ρ.t 9) k b (i*k) (n+m-i) dc ⟨vb,voff,none⟩ m vc C1 ty vs T.t24 hs9 hWb (by rw[hmin,hvl])
   (fun j v hj=>by
    rw[Addr.add_lit]
    have h1:=hvs j v hj
    have h2:W.heap[vb]? =w.heap[vb]? :=by rw[hW];simp only[World.setRow,Array.getElem?_modify];rw[if_neg (Ne.symm hvb)]
    simp only[World.cell?,h2] at h1 ⊢
    exact h1)
   (by rw[hvl,hC1s];omega) h1v
  rw[hmin,hvl,←hC2] at this
  exact this
 refine Calls.mono (R:=fun e w'=>e= .returned (.slice (some ⟨b,0,none⟩) (n+m) c)∧w'=(w.drew.setRow b C1).setRow b C2) ?_ fun e w' h=>⟨h.1,C1,C2,by rw[hC1,hcs],hC2,h.2⟩
 clear hC1 hC2 hcs hC1s hdl hvs h1c h1v g1 g2 g3 g4 g5 hi0 k1 k2 k3 k4 hsz hvl hsa hsb hfa hfe hb hs9
 obtain ⟨_,_,FG⟩:=T.f22
 go_enter FG,Body2.n22_ntmps ρ
 go_wp2_with (simp only[hov])
 go_region_law_o (refine step_copy_runI rfl _ _ (ρ.t 24) (ρ.t 24) rfl _ _ (by simp[Act.eval,Act.put]) (by simp[Act.eval,Act.put]) (hcp1 _ _ _) ?_)
 go_wp2_with (refine wpList_copy_runI _ rfl (.tmp 80) (.tmp 81) (ρ.t 24) (ρ.t 24) rfl _ _ rfl rfl (hcp2 (w.drew.setRow b C1) rfl _ _) ?_)
 go_ret
 exact ⟨rfl,rfl⟩
set_option maxHeartbeats 4000000 in
set_option maxRecDepth 100000 in
/-- At the end: append. -/
theorem ins_end {k bytes:Nat} {z:Value} (T:InsT P ρ k bytes z) (base:Nat) (s:Value) (n vb voff m vc:Nat) (xs vs:List Value) (w:World) (hown:w.ownsRow base (ρ.t 9) k s n xs) (hbase:base≤w.heap.size) (hm:0<m)
 (hvl:vs.length=m*k) (hvs: ∀j v,vs[j]? =some v→w.cell? ⟨vb,voff+j,none⟩=some v) (h1v: ∀v∈vs,v.oneCell'=true) (h63:n+m≤maxLen) (hby:(n+m)*bytes≤140737488355328):
 Calls P (ρ.f 22) #[s,.int .i64 n,.slice (some ⟨vb,voff,none⟩) m vc] w fun e w'=> ∃v',e= .returned v'∧w'.ownsRow base (ρ.t 9) k v' (n+m) (xs++vs)∧w.grownBy w' s.ownBlock∧v'≠ .slice none 0 0∧
  (v'.ownBlock=s.ownBlock∨v'.ownBlock=some w.heap.size)∧w.drawn≤w'.drawn:=by
 have mixed:=T.mixed
 have t3:=T.t3;have t4:=T.t4;have z9:=T.z9;have t24:=T.t24
 have u3:=run_underlying T.t3;have u4:=run_underlying T.t4;have u24:=run_underlying T.t24
 obtain ⟨i0,hi0,hik,hib,hiz,hzk,hk0⟩:=T.i9
 have hz1: ¬((m:Int)=0):=by omega
 obtain ⟨v',w',hrun,r2,r3,r4,r5,r6⟩:=run_append_own_d (P:=P) w base (ρ.t 24) (ρ.t 24) (ρ.t 9) i0 z k bytes T.t24 hi0 hiz hik hib hzk hk0 s n xs hown ⟨vb,voff,none⟩ m vc vs hvl (fun j u hj=>by rw[Addr.add_lit];exact hvs j u hj) h1v h63 hby hbase
 refine Calls.mono (R:=fun e w1=>e= .returned v'∧w1=w') ?_ fun e w1 h=>⟨v',h.1,h.2▸r2,h.2▸r3,fun hq=>by have:=(r4.1 hq).2;omega,r5,h.2▸r6⟩
 have hn63:(n:Int)≤9223372036854775807:=by unfold maxLen at h63;omega
 rcases hown.2 with ⟨rfl,rfl⟩ | ⟨g,cap,cur,rfl,_,_,hnc,hcm,_,_⟩
 ·clear hown r2 r3 r4 r5 r6 hvs h1v hvl hi0 hik hib hiz hzk hk0
  obtain ⟨_,_,FG⟩:=T.f22
  go_enter FG,Body2.n22_ntmps ρ
  go_wp2_with (refine Lib.wpList_append_run _ rfl (.tmp 23) (.tmp 24) _ _ rfl _ _ rfl rfl _ _ hrun ?_)
  go_ret
  exact ⟨rfl,rfl⟩
 ·unfold maxLen at hcm
  clear hown r2 r3 r4 r5 r6 hvs h1v hvl hi0 hik hib hiz hzk hk0
  obtain ⟨_,_,FG⟩:=T.f22
  go_enter FG,Body2.n22_ntmps ρ
  go_wp2_with (refine Lib.wpList_append_run _ rfl (.tmp 23) (.tmp 24) _ _ rfl _ _ rfl rfl _ _ hrun ?_)
  all_goals (go_ret;exact ⟨rfl,rfl⟩)
end Go.Proofs.Yteagcdhkobeanaa.Z
