/- slices.Insert where there is no room: a new row. -/
import Derived.Test.YteagcdhkobeanaaZ1
import Derived.Lib.AppendZerosOnto
import Derived.Laws.NewBlocks
set_option linter.unusedVariables false
set_option linter.unusedSimpArgs false
namespace Go.Proofs.Yteagcdhkobeanaa.Z
open Go Go.Shelf Go.RowKit Go.Lib Go.Proofs
variable {P:Program} {ρ:Ren}
set_option maxHeartbeats 4000000 in
set_option maxRecDepth 100000 in
/-- No room, and something stands behind: a new row. -/
theorem ins_grow {k bytes:Nat} {z:Value} (T:InsT P ρ k bytes z) (b n c i vb voff m vc:Nat) (cur:Array Value) (vs:List Value) (w:World) (hi:i<n) (hm:0<m) (hnc:n≤c) (hroom:c<n+m) (h63:n+m≤maxLen) (hbig:(n+m)*bytes≤140737488355328)
 (hb:w.heap[b]? =some (.cells cur (ρ.t 9) (0,0))) (hsz:cur.size=c*k) (hvl:vs.length=m*k)
 (hvs: ∀j v,vs[j]? =some v→w.cell? ⟨vb,voff+j,none⟩=some v) (hvw:vb<w.heap.size) (h1c: ∀j v,j<n*k→cur[j]? =some v→v.oneCell'=true) (h1v: ∀v∈vs,v.oneCell'=true):
 Calls P (ρ.f 22) #[.slice (some ⟨b,0,none⟩) n c,.int .i64 i,.slice (some ⟨vb,voff,none⟩) m vc] w fun e w'=>
  e= .returned (.slice (some ⟨w.heap.size,0,none⟩) (n+m) (grownCap w (n+m) c (ρ.t 9)))∧
  ∃ROW C1 C2:Array Value,ROW=(cur.toList.take (i*k)).toArray++Builtin.zeroCells z.cells (n+m-i)++Builtin.zeroCells z.cells (grownCap w (n+m) c (ρ.t 9)-(n+m))∧
   C1=(ROW.toList.take (i*k)++vs++ROW.toList.drop (i*k+m*k)).toArray∧
   C2=(C1.toList.take ((i+m)*k)++(cur.toList.drop (i*k)).take ((n-i)*k)++C1.toList.drop ((i+m)*k+(n-i)*k)).toArray∧ROW.size=grownCap w (n+m) c (ρ.t 9)*k∧
   w'=(((w.alloc (.cells ROW (ρ.t 9))).drew.setRow w.heap.size C1).drew).setRow w.heap.size C2:=by
 have mixed:=T.mixed
 have t3:=T.t3;have t4:=T.t4;have z9:=T.z9;have t24:=T.t24
 have u3:=run_underlying T.t3;have u4:=run_underlying T.t4;have u24:=run_underlying T.t24
 obtain ⟨i0,hi0,hik,hib,hiz,hzk,hk0⟩:=T.i9
 have hs9:(P.info? (ρ.t 9)).map (·.size)=some k:=by rw[hi0];simp[hik]
 have hz1: ¬((m:Int)=0):=by omega
 have hz2: ¬((i:Int)=(n:Int)):=by omega
 have hz3:(c:Int)<(n:Int)+(m:Int):=by omega
 have hbw:b<w.heap.size:=(Array.getElem?_eq_some_iff.1 hb).1
 have hkk:(n:Int)+(m:Int)-(i:Int)=((n+m-i:Nat):Int):=by omega
 have hik':i+(n+m-i)=n+m:=by omega
 have h63':n+m≤9223372036854775807:=by unfold maxLen at h63;omega
 have hin:i≤n:=by omega
 have k1:(i+m)*k=i*k+m*k:=Nat.add_mul ..
 have k2:(n-i)*k=n*k-i*k:=Nat.sub_mul ..
 have k3:i*k≤n*k:=Nat.mul_le_mul_right _ hin
 have k5:n*k≤c*k:=Nat.mul_le_mul_right _ hnc
 obtain ⟨pre,hpre⟩: ∃pre,pre=cur.toList.take (i*k):=⟨_,rfl⟩
 have hpl:pre.length=i*k:=by rw[hpre,List.length_take,Array.length_toList,hsz];omega
 have hold:(Builtin.firstCells i0.size i (.slice (some ⟨b,0,none⟩) i c)).run P w.drew= .ok pre.toArray w.drew:=by
  rw[hik]
  exact run_firstCells_some w.drew k i ⟨b,0,none⟩ i c pre hpl (fun j v hj=>by
   rw[Addr.add_lit,Nat.zero_add]
   rw[hpre,List.getElem?_take] at hj
   split at hj
   ·rw[Array.getElem?_toList] at hj
    exact (cell_of hb j).trans hj
   ·cases hj)
 have hbm:(n+m-i)*i0.bytes≤281474976710656:=by
  have:(n+m-i)*i0.bytes≤(n+m)*i0.bytes:=Nat.mul_le_mul_right _ (by omega)
  rw[hib] at this ⊢;omega
 have hrz: ∀ty,(Builtin.append_ #[(ρ.t 24),(ρ.t 3)] ty #[.slice (some ⟨b,0,none⟩) i c,.int .i64 ((n:Int)+(m:Int)-(i:Int))]).run P w=
  .ok (.slice (some ⟨w.heap.size,0,none⟩) (n+m) (grownCap w (n+m) c (ρ.t 9))) (w.drew.alloc (.cells (pre.toArray++Builtin.zeroCells z.cells (n+m-i)++Builtin.zeroCells z.cells (grownCap w (n+m) c (ρ.t 9)-(n+m))) (ρ.t 9))):=fun ty=>by
  have h:=Lib.run_append_grow_zeros w (ρ.t 24) (ρ.t 3) ty (ρ.t 9) i0 z .i64 .i64 T.t24 T.t3 hi0 hiz (some ⟨b,0,none⟩) i c pre hold (n+m-i) (by omega) (by omega) (by omega) (by omega) hbm (by rw[hik'];exact growslice_fits hroom (by rw[hib];exact hbig))
  rw[hik'] at h
  rw[hkk]
  exact h
 have hGn:n+m≤grownCap w (n+m) c (ρ.t 9):=grownCap_ge w _ _ _
 have hG63:grownCap w (n+m) c (ρ.t 9)≤9223372036854775807:=by
  have:=grownCap_le_maxLen w (n+m) c (ρ.t 9) h63
  unfold maxLen at this
  omega
 obtain ⟨G,hG⟩: ∃G,G=grownCap w (n+m) c (ρ.t 9):=⟨_,rfl⟩
 rw[←hG] at hrz hGn hG63
 obtain ⟨ROW,hROW⟩: ∃ROW:Array Value,ROW=pre.toArray++Builtin.zeroCells z.cells (n+m-i)++Builtin.zeroCells z.cells (G-(n+m)):=⟨_,rfl⟩
 rw[←hROW] at hrz
 have k6:(n+m-i)*k+i*k=n*k+m*k:=by rw[←Nat.add_mul,show n+m-i+i=n+m from by omega,Nat.add_mul]
 have k7:(G-(n+m))*k+(n*k+m*k)=G*k:=by rw[←Nat.add_mul,←Nat.add_mul,show G-(n+m)+(n+m)=G from by omega]
 have hRs:ROW.size=G*k:=by rw[hROW];simp only[Array.size_append,List.size_toArray,size_zeroCells,hzk,hpl];omega
 obtain ⟨C1,hC1⟩: ∃C1:Array Value,C1=(ROW.toList.take (i*k)++vs++ROW.toList.drop (i*k+m*k)).toArray:=⟨_,rfl⟩
 have hC1s:C1.size=G*k:=by rw[hC1];simp only[List.size_toArray,List.length_append,List.length_take,List.length_drop,Array.length_toList,hvl,hRs];omega
 obtain ⟨cs,hcs⟩: ∃cs,cs=(cur.toList.drop (i*k)).take ((n-i)*k):=⟨_,rfl⟩
 have hdl:cs.length=(n-i)*k:=by rw[hcs,List.length_take,List.length_drop,Array.length_toList,hsz];omega
 obtain ⟨C2,hC2⟩: ∃C2:Array Value,C2=(C1.toList.take ((i+m)*k)++cs++C1.toList.drop ((i+m)*k+(n-i)*k)).toArray:=⟨_,rfl⟩
 obtain ⟨N,hN⟩: ∃N,N=w.heap.size:=⟨_,rfl⟩
 have hcpA: ∀(W:World),W.heap=(w.alloc (.cells ROW (ρ.t 9))).heap→ ∀ty' dc,(Builtin.copy_ #[(ρ.t 24),(ρ.t 24)] ty' #[.slice (some ⟨w.heap.size,i*k,none⟩) (n+m-i) dc,.slice (some ⟨vb,voff,none⟩) m vc]).run P W= .ok (goInt m) (W.setRow w.heap.size C1):=fun W hW ty' dc=>by
  have hmin:Nat.min m (n+m-i)=m:=by simp only[Nat.min_def];split<;>omega
  have hWb:W.heap[w.heap.size]? =some (.cells ROW (ρ.t 9) (0,0)):=by rw[hW];exact heap_alloc_new w _
  have:=run_copy_k (P:=P) W (ρ.t 24) (ρ.t 24) ty' (ρ.t 9) k w.heap.size (i*k) (n+m-i) dc ⟨vb,voff,none⟩ m vc ROW (ρ.t 9) vs T.t24 hs9 hWb (by rw[hmin,hvl])
   (fun j v hj=>by
    rw[Addr.add_lit]
    have h1:=hvs j v hj
    have h2:W.heap[vb]? =w.heap[vb]? :=by rw[hW];exact heap_alloc_old w _ hvw
    simp only[World.cell?,h2] at h1 ⊢
    exact h1)
   (by rw[hvl,hRs];omega) h1v
  rw[hmin,hvl,←hC1] at this
  exact this
 have hcpB: ∀(W:World),W.heap=((w.alloc (.cells ROW (ρ.t 9))).setRow w.heap.size C1).heap→ ∀ty' dc sc,(Builtin.copy_ #[(ρ.t 24),(ρ.t 24)] ty' #[.slice (some ⟨w.heap.size,(i+m)*k,none⟩) (n+m-(i+m)) dc,.slice (some ⟨b,i*k,none⟩) (n-i) sc]).run P W= .ok (goInt ((n-i:Nat):Int)) (W.setRow w.heap.size C2):=fun W hW ty' dc sc=>by
  have hmin:Nat.min (n-i) (n+m-(i+m))=n-i:=by simp only[Nat.min_def];split<;>omega
  have hWb:W.heap[w.heap.size]? =some (.cells C1 (ρ.t 9) (0,0)):=by rw[hW];exact setRow_at (cur:=ROW) (ty:=ρ.t 9) (fr:=(0,0)) (heap_alloc_new w _)
  have hWs:W.heap[b]? =some (.cells cur (ρ.t 9) (0,0)):=by
   rw[hW]
   simp only[World.setRow,Array.getElem?_modify]
   rw[if_neg (by omega),heap_alloc_old w _ hbw]
   exact hb
  have:=run_copy_k (P:=P) W (ρ.t 24) (ρ.t 24) ty' (ρ.t 9) k w.heap.size ((i+m)*k) (n+m-(i+m)) dc ⟨b,i*k,none⟩ (n-i) sc C1 (ρ.t 9) cs T.t24 hs9 hWb (by rw[hmin,hdl])
   (fun j v hj=>by
    rw[Addr.add_lit]
    have:=cell_of hWs (i*k+j)
    rw[hcs,List.getElem?_take] at hj
    split at hj
    ·rw[List.getElem?_drop,Array.getElem?_toList] at hj
     exact this.trans hj
    ·cases hj)
   (by rw[hdl,hC1s];omega)
   (fun v hv=>by
    obtain ⟨j,hj⟩:=List.mem_iff_getElem?.1 hv
    rw[hcs,List.getElem?_take] at hj
    split at hj
    ·rename_i hjl
     rw[List.getElem?_drop,Array.getElem?_toList] at hj
     exact h1c _ v (by omega) hj
    ·cases hj)
  rw[hmin,hdl,←hC2] at this
  exact this
 have hGi: ¬(G=i):=by omega
 have hGim: ¬(G=i+m):=by omega
 have hci: ¬(c=i):=by omega
 have hw1:IntKind.i64.wrap ((i:Int)+(m:Int))=(i:Int)+(m:Int):=by rw[IntKind.wrap_i64];omega
 have hb1:(0:Int)≤(i:Int)+(m:Int):=by omega
 have htn:((i:Int)+(m:Int)).toNat=i+m:=by omega
 have hb3:(i:Int)≤(n:Int):=by omega
 refine Calls.mono (R:=fun e w'=>e= .returned (.slice (some ⟨w.heap.size,0,none⟩) (n+m) G)∧w'=(((w.alloc (.cells ROW (ρ.t 9))).drew.setRow w.heap.size C1).drew).setRow w.heap.size C2) ?_ fun e w' h=>⟨by rw[←hG];exact h.1,ROW,C1,C2,by rw[←hG,hROW,hpre],hC1,by rw[hC2,hcs],by rw[←hG];exact hRs,h.2⟩
 clear hC1 hC2 hcs hC1s hdl hvs h1c h1v hi0 k1 k2 k3 k5 k6 k7 hsz hvl hb hs9 hkk hik' hold hROW hG hRs hbm
 obtain ⟨_,_,FG⟩:=T.f22
 go_enter FG,Body2.n22_ntmps ρ
 go_wp2_with (first
  | (refine Lib.wpList_append_run _ rfl (.tmp 34) (.tmp 39) _ _ rfl _ _ rfl rfl _ _ (hrz _) ?_)
  | (refine wpList_copy_runI _ rfl (.tmp 43) (.tmp 44) (ρ.t 24) (ρ.t 24) rfl _ _ rfl rfl (hcpA ((w.alloc (.cells ROW (ρ.t 9))).drew) rfl _ _) ?_))
 go_region_law_o (refine step_copy_runI rfl _ _ (ρ.t 24) (ρ.t 24) rfl (.slice (some ⟨w.heap.size,(i+m)*k,none⟩) (n+m-(i+m)) (G-(i+m))) (.slice (some ⟨b,i*k,none⟩) (n-i) (c-i)) (by simp[Act.eval,Act.put]) (by simp[Act.eval,Act.put]) (hcpB (((w.alloc (.cells ROW (ρ.t 9))).drew.setRow w.heap.size C1).drew) rfl (ρ.t 3) (G-(i+m)) (c-i)) ?_)
 go_wp2
 go_ret
 exact ⟨rfl,rfl⟩
end Go.Proofs.Yteagcdhkobeanaa.Z
