/- slices.Delete, of elements of so many cells; over any program that has its text. -/
import Derived.Test.YteagcdhkobeanaaZ1
set_option linter.unusedVariables false
set_option linter.unusedSimpArgs false
namespace Go.Proofs.Yteagcdhkobeanaa.Z
open Go Go.Shelf Go.RowKit Go.Lib Go.Proofs
variable {P:Program} {ρ:Ren}
/-- What slices.Delete asks of a program. -/
structure DelT (P:Program) (ρ:Ren) (k:Nat) (z:Value):Prop where
 mixed:P.follows .mixedOrders=true
 f45:Bears P (ρ.f 45) (SlBodyN.n45 ρ)
 t3:P.underlying (ρ.t 3)=some (TypeDesc.int IntKind.i64)
 t4:P.underlying (ρ.t 4)=some (TypeDesc.bool)
 t22:P.underlying (ρ.t 22)=some (TypeDesc.slice (ρ.t 23))
 i23: ∃i0,P.info? (ρ.t 23)=some i0∧i0.size=k∧z.cells.size=k∧0<k∧i0.zero=some z∧ ∀v,v∈z.cells.toList→v.oneCell'=true
theorem DelT.z23 {k:Nat} {z:Value} (T:DelT P ρ k z): ∀w,(Go.sizeOf (ρ.t 23)).run P w= .ok k w:=fun w=>by
 obtain ⟨i0,h1,h2,_⟩:=T.i23
 simp[sizeOf,typeInfo,h1,h2]
theorem DelT.v23 {k:Nat} {z:Value} (T:DelT P ρ k z): ∀w,(zeroValue (ρ.t 23)).run P w= .ok z w:=fun w=>by
 obtain ⟨i0,h1,_,_,_,h2,_⟩:=T.i23
 simp[zeroValue,typeInfo,h1,h2]
theorem step_append_runI {ops:Array Oper} {o:Oper} {a:Act} {w:World} {K:Act→World→Prop} {Q:Exit→Act→World→Prop} {E:Prop}
 (hg:o.guard=none) (d x:Operand) (dT sT:TypeId) (hop:o.op=Op.call {callee:=Callee.builtin Builtin.append,args:= #[d,x],argTypes:= #[dT,sT]})
 (v u:Value) (hd:a.eval d=v) (hx:a.eval x=u) {v':Value} {w':World} (hr:(Builtin.append_ #[dT,sT] o.type #[v,u]).run P w= .ok v' w') (hK:K (a.put o.dst v') w'):
 if Region.wanted o (yielded ops a.tmps)=true then Oper.wp P o a w K Q else E:=by
 have hw:Region.wanted o (yielded ops a.tmps)=true:=by simp[Region.wanted,hg]
 rw[if_pos hw]
 unfold Oper.wp
 simp[execOp,hop,resolve,invoke,builtin,hd,hx,hr,Result.andThen]
 exact hK
theorem wp_clear_runI (w:World) {o:Oper} {a:Act} {K:Act→World→Prop} {Q:Exit→Act→World→Prop} (d:Operand) (t:TypeId)
 (ho:o.op= .call {callee:= .builtin .clear,args:= #[d],argTypes:= #[t]}) (v:Value) (hd:a.eval d=v) {v':Value} {w':World}
 (hr:(Builtin.clear_ #[t] o.type #[v]).run P w= .ok v' w') (h:K (a.put o.dst v') w'):o.wp P a w K Q:=by
 unfold Oper.wp execOp
 simp only[ho,resolve,invoke,builtin,Sem.run_bind,Sem.run_pure,Result.andThen_ok,List.map_toArray,List.map_cons,List.map_nil,hd,hr]
 exact h
theorem wpList_clear_runI (w:World) {ops:Array Oper} {rest:List Oper} {o:Oper} {a:Act} {Q:Exit→Act→World→Prop} (hgd:o.guard=none) (d:Operand) (t:TypeId)
 (ho:o.op= .call {callee:= .builtin .clear,args:= #[d],argTypes:= #[t]}) (v:Value) (hd:a.eval d=v) {v':Value} {w':World}
 (hr:(Builtin.clear_ #[t] o.type #[v]).run P w= .ok v' w') (h:wpList P ops Q rest (a.put o.dst v') w'):wpList P ops Q (o::rest) a w:=
 wpList_plain hgd fun _ hK=>wp_clear_runI w d t ho v hd hr (hK _ _ h)
/-- clear of so many elements. -/
theorem run_clear_k (w:World) (t e ty:TypeId) (z:Value) (k:Nat) (ht:P.underlying t=some (.slice e)) (hv: ∀w,(zeroValue e).run P w= .ok z w) (hz:z.cells.size=k) (h1: ∀v,v∈z.cells.toList→v.oneCell'=true) (hk:0<k) (b o n c:Nat) (hn:0<n)
 (cur:Array Value) (tc:TypeId) (hb:w.heap[b]? =some (.cells cur tc (0,0))) (hfit:o+n*k≤cur.size):
 (Builtin.clear_ #[t] ty #[.slice (some ⟨b,o,none⟩) n c]).run P w= .ok (.tuple #[]) (w.setRow b (cur.toList.take o++(Builtin.zeroCells z.cells n).toList++cur.toList.drop (o+n*k)).toArray):=by
 have hl:(Builtin.zeroCells z.cells n).toList.length=n*k:=by rw[Array.length_toList,size_zeroCells,hz]
 have hone: ∀v∈(Builtin.zeroCells z.cells n).toList,v.oneCell'=true:=by
  intro v hv'
  simp only[Builtin.zeroCells,Array.toList_map,Array.toList_range,List.mem_map,List.mem_range] at hv'
  obtain ⟨i,hi,rfl⟩:=hv'
  have hlt:i%z.cells.size<z.cells.size:=Nat.mod_lt _ (by omega)
  rw[getElem!_pos z.cells (i%z.cells.size) hlt]
  exact h1 _ (by simp)
 have hst:=run_storeCells_at P b o tc (Builtin.zeroCells z.cells n).toList 0 cur w hb (by rw[hl];simpa using hfit) hone
 rw[hl] at hst
 simp only[Nat.add_zero] at hst
 obtain ⟨m,rfl⟩: ∃m,n=m+1:=⟨n-1,by omega⟩
 simp[Builtin.clear_,run_underlying ht,hv,hst]
set_option maxHeartbeats 4000000 in
set_option maxRecDepth 1000000 in
/-- Some are deleted: what stood ahead of i, what stood from j on. -/
theorem del_some {k:Nat} {z:Value} (T:DelT P ρ k z) (b n c i j:Nat) (cur:Array Value) (w:World) (hn:n≤c) (hc63:c≤9223372036854775807) (hij:i<j) (hj:j≤n)
 (hb:w.heap[b]? =some (.cells cur (ρ.t 23) (0,0))) (hsz:cur.size=c*k) (h1c: ∀j v,j<n*k→cur[j]? =some v→v.oneCell'=true):
 Calls P (ρ.f 45) #[.slice (some ⟨b,0,none⟩) n c,.int .i64 i,.int .i64 j] w fun e w'=>
  e= .returned (.slice (some ⟨b,0,none⟩) (i+(n-j)) c)∧
  ∃C1 C2:Array Value,C1=(cur.toList.take (i*k)++(cur.toList.drop (j*k)).take ((n-j)*k)++cur.toList.drop (i*k+(n-j)*k)).toArray∧
   C2=(C1.toList.take ((i+(n-j))*k)++(Builtin.zeroCells z.cells (n-(i+(n-j)))).toList++C1.toList.drop ((i+(n-j))*k+(n-(i+(n-j)))*k)).toArray∧w'=(w.drew.setRow b C1).setRow b C2:=by
 have mixed:=T.mixed
 have t3:=T.t3;have t4:=T.t4;have z23:=T.z23;have t22:=T.t22
 have u3:=run_underlying T.t3;have u4:=run_underlying T.t4;have u22:=run_underlying T.t22
 obtain ⟨i0,hi0,hik,hzk,hk0,_,hz1⟩:=T.i23
 have k1:(i+(n-j))*k=i*k+(n-j)*k:=Nat.add_mul ..
 have k2:(n-j)*k=n*k-j*k:=Nat.sub_mul ..
 have k3:j*k≤n*k:=Nat.mul_le_mul_right _ hj
 have k4:n*k≤c*k:=Nat.mul_le_mul_right _ hn
 have k5:i*k≤j*k:=Nat.mul_le_mul_right _ (by omega)
 have k6:(n-(i+(n-j)))*k+(i+(n-j))*k=n*k:=by rw[←Nat.add_mul,show n-(i+(n-j))+(i+(n-j))=n from by omega]
 obtain ⟨cs,hcs⟩: ∃cs,cs=(cur.toList.drop (j*k)).take ((n-j)*k):=⟨_,rfl⟩
 have hdl:cs.length=(n-j)*k:=by rw[hcs,List.length_take,List.length_drop,Array.length_toList,hsz];omega
 obtain ⟨C1,hC1⟩: ∃C1:Array Value,C1=(cur.toList.take (i*k)++cs++cur.toList.drop (i*k+(n-j)*k)).toArray:=⟨_,rfl⟩
 have hC1s:C1.size=c*k:=by rw[hC1];simp only[List.size_toArray,List.length_append,List.length_take,List.length_drop,Array.length_toList,hdl,hsz];omega
 obtain ⟨C2,hC2⟩: ∃C2:Array Value,C2=(C1.toList.take ((i+(n-j))*k)++(Builtin.zeroCells z.cells (n-(i+(n-j)))).toList++C1.toList.drop ((i+(n-j))*k+(n-(i+(n-j)))*k)).toArray:=⟨_,rfl⟩
 obtain ⟨A,hA,hsrc⟩: ∃A:Addr,(if c=j then some (⟨b,0,none⟩:Addr) else some ⟨b,j*k,none⟩)=some A∧(∀t u,cs[t]? =some u→w.drew.cell? (A.add t)=some u):=by
  by_cases h:c=j
  ·refine ⟨⟨b,0,none⟩,by simp[h],fun t u hu=> ?_⟩
   have h0:cs.length=0:=by
    rw[hdl,show n-j=0 from by omega,Nat.zero_mul]
   rw[List.length_eq_zero_iff.1 h0] at hu
   simp at hu
  ·refine ⟨⟨b,j*k,none⟩,by simp[h],fun t u hu=> ?_⟩
   rw[Addr.add_lit]
   rw[hcs,List.getElem?_take] at hu
   split at hu
   ·rw[List.getElem?_drop,Array.getElem?_toList] at hu
    exact (cell_of (w:=w.drew) hb (j*k+t)).trans hu
   ·cases hu
 have hone: ∀v∈cs,v.oneCell'=true:=fun v hv=>by
  obtain ⟨t,ht⟩:=List.mem_iff_getElem?.1 hv
  rw[hcs,List.getElem?_take] at ht
  split at ht
  ·rename_i hjl
   rw[List.getElem?_drop,Array.getElem?_toList] at ht
   exact h1c _ v (by omega) ht
  ·cases ht
 have happ: ∀ty' cx,(Builtin.append_ #[(ρ.t 22),(ρ.t 22)] ty' #[.slice (some ⟨b,0,none⟩) i c,.slice (some A) (n-j) cx]).run P w.drew= .ok (.slice (some ⟨b,0,none⟩) (i+(n-j)) c) (w.drew.setRow b C1):=fun ty' cx=>by
  have:=run_append_room (P:=P) w.drew (ρ.t 22) ty' (ρ.t 23) i0 T.t22 hi0 b i c cur hb A (n-j) cx cs (by rw[hdl,hik]) hsrc hone (by omega) (by rw[hdl,hik,hsz];omega)
  rw[hik,hdl,←hC1] at this
  exact this
 have hclr: ∀(W:World),W.heap=(w.setRow b C1).heap→ ∀ty' cx,(Builtin.clear_ #[(ρ.t 22)] ty' #[.slice (some ⟨b,(i+(n-j))*k,none⟩) (n-(i+(n-j))) cx]).run P W= .ok (.tuple #[]) (W.setRow b C2):=fun W hW ty' cx=>by
  have hWb:W.heap[b]? =some (.cells C1 (ρ.t 23) (0,0)):=by rw[hW];exact setRow_at hb
  have:=run_clear_k (P:=P) W (ρ.t 22) (ρ.t 23) ty' z k T.t22 T.v23 hzk hz1 hk0 b ((i+(n-j))*k) (n-(i+(n-j))) cx (by omega) C1 (ρ.t 23) hWb (by rw[hC1s];omega)
  rw[←hC2] at this
  exact this
 have hb2: ¬(c=i+(n-j)):=by omega
 have hb3:i+(n-j)≤n:=by omega
 have hb4:i≤c:=by omega
 have hb5:j≤c:=by omega
 refine Calls.mono (R:=fun e w'=>e= .returned (.slice (some ⟨b,0,none⟩) (i+(n-j)) c)∧w'=(w.drew.setRow b C1).setRow b C2) ?_ fun e w' h=>⟨h.1,C1,C2,by rw[hC1,hcs],hC2,h.2⟩
 clear hC1 hC2 hcs hC1s hdl h1c hi0 hik k1 k2 k3 k4 k5 k6 hsz hb hsrc hone hzk hz1
 obtain ⟨_,_,FG⟩:=T.f45
 go_enter FG,SlBodyN.n45_ntmps ρ
 go_wp2_with fail
 go_region_law_o (refine step_append_runI rfl (.tmp 22) (.tmp 25) (ρ.t 22) (ρ.t 22) rfl (.slice (some ⟨b,0,none⟩) i c) (.slice (some A) (n-j) (c-j)) (by simp[Act.eval,Act.put]) (by simp[Act.eval,Act.put]) (happ _ _) ?_)
 go_wp2_with (refine wpList_clear_runI _ rfl (.tmp 31) (ρ.t 22) rfl _ rfl (hclr (w.drew.setRow b C1) rfl _ _) ?_)
 go_ret
 exact ⟨rfl,rfl⟩
set_option maxHeartbeats 4000000 in
set_option maxRecDepth 1000000 in
/-- None is deleted. -/
theorem del_none {k:Nat} {z:Value} (T:DelT P ρ k z) (b n c i:Nat) (w:World) (hn:n≤c) (hc63:c≤9223372036854775807) (hi:i≤n):
 Calls P (ρ.f 45) #[.slice (some ⟨b,0,none⟩) n c,.int .i64 i,.int .i64 i] w fun e w'=>e= .returned (.slice (some ⟨b,0,none⟩) n c)∧w'=w:=by
 have mixed:=T.mixed
 have t3:=T.t3;have t4:=T.t4;have z23:=T.z23;have t22:=T.t22
 have u3:=run_underlying T.t3;have u4:=run_underlying T.t4;have u22:=run_underlying T.t22
 obtain ⟨_,_,FG⟩:=T.f45
 go_enter FG,SlBodyN.n45_ntmps ρ
 go_wp2
 all_goals (go_ret;exact ⟨rfl,rfl⟩)
end Go.Proofs.Yteagcdhkobeanaa.Z
