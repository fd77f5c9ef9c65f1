import Derived.Test.YtjgbhhnghedgdaaGreatDoorZsRY
import Derived.Test.YtjgbhhnghedgdaaGreatDoorZsTk3
import Derived.Shelf.RegionOpenPlain
import Derived.WalkKit
import Derived.Lib.SliceRun
set_option linter.all false
namespace Go.Proofs.YtjgbhhnghedgdaaGreatDoor
open Go.RowKit
set_option maxRecDepth 100000
set_option maxHeartbeats 4000000
theorem Bc (l:List UInt64) (hl:l.length≤1000000):bK Tryz.prog 52 [.sl 1 (aj l)] (.own 1 (aj l)):=by
 have sI:(aj l).length=l.length:=aD l
 refine zO Tryz.func52 8<|zq<|zS<|zS<|a7.isNil (t:=27) (el:=22) (x:=.tmp 0) (d1:=3) (d2:=4) (e:=1) (row:=aj l) bH bH bH bH bH bH bH Tryz.underlying27 bH bH bH fun b hb=>ak ?_
 cases b with
 | true =>
  have e:=hb rfl
  refine zT 4<|zq<|dW (zV [yI e])
 | false =>
  refine zF 4<|a8<|zP 1 [yH [(2,{b:=false})]] [.aa [2,4,0] [7]] [yB (dh (aj l)) (pr _),yO ((0+(aj l).length)*8≤140737488355328)]<|zR (cE)
theorem tW (l:List Mem) (hl:l.length≤1000000):bK Tryz.prog 60 [.sl 4 (af aP l)] (.own 4 (af aP l)):=by
 have sI:(af aP l).length=l.length*4:=aG (e:=4) (fun _=>rfl) ..
 refine zO Tryz.func60 8<|zq<|zS<|zS<|a7.isNil (t:=38) (el:=51) (x:=.tmp 0) (d1:=3) (d2:=4) (e:=4) (row:=af aP l) bH bH bH bH bH bH bH Tryz.underlying38 bH bH bH fun b hb=>ak ?_
 cases b with
 | true =>
  have e:=hb rfl
  refine zT 4<|zq<|dW (zV [yI e])
 | false =>
  refine zF 4<|a8<|zP 1 [yH [(2,{b:=false})]] [.aa [2,4,0] [7]] [yB (dh (af aP l)) (hY (fun x=>ij rfl) _),yO ((0+(af aP l).length)*40≤562949953421312)]<|zR (cE)
theorem rW (d:nC) (h1:d.box.length≤1000000) (h2:d.ae.length≤1000000) (h3:d.au.length≤1000000):bK Tryz.prog 54 [.agg (bg d)] (.agg (PS d)):=by
 have hc:=Bo d.ae h2
 refine zO Tryz.func54 16<|zP 5 [{},yH [(2,yV (AV.own 1 (ag d.box)))],yH [(2,{av:=some (AV.own 1 (af (fun s↦ [dw s]) d.ae)),b:=false})],yH [(2,yV (AV.own 1 (aj d.au)))],{}] [.aa [2,1,0] [2,1,13,9,5]] [yI (FC d.box ah),yI (aV d.box),yL 3 7,yI hc,yL 4 7,yI (Bc d.au h3),yB (lC (aj d.au)) (gg _),yL 5 7,yL 7 7]<|zR (cE)
theorem zZ (l:List fW) (v:fW) (hl:l.length≤1000):gb Tryz.prog 53 [.ref 5,ai l.length,.sl 4 (af bp [v])] [(5,⟨4,true,false,af bp l⟩)] (.own 4 (af bp (l++ [v]))) [(5,⟨4,true,false,af bp []⟩)]:=by
 have sI:(af bp l).length=l.length*4:=aG (e:=4) (fun _=>rfl) ..
 have VR:(af bp [v]).length=4:=rfl
 refine mN Tryz.func53 95<|a7.su [.vS 5 77] bH<|a7.ow (bN.add 5 4 bH)<|zP 3 [{},yH [(2,{k:=l.length})],yH [(1,{k:=1})]] [.aa [7,6,0,1,2] [5,77]] [yR (↑l.length:Int),yO (l.length*4≤(af bp l).length),yR (1*4)]<|zS<|zq<|bo 16 ((↑(1:Nat):Int) == (0:Int)) bR<|a8<|zP 1 [yH [(1,{k:=l.length})]] [.aa [8,16,7,6,0,1,2] [5,77]] [yI sI]<|zS<|zP 1 [{}] [.aa [22,8,16,7,6,0,1,2] [5,77]] []<|dQ 22 ((↑l.length:Int) == (↑l.length:Int)) fX<|zQ 1 [{}] [yO (((af bp l).length+4)*72≤562949953421312)]<|dW (zG [] [yB (af bp l++af bp [v]=af bp (l++ [v])) (fO _ _),yB ([]=af bp []) rfl])
section
variable {P:Program}
theorem qo {ops:Array Oper} {o:Oper} {a:Act} {w:World} {K:Act->World->Prop} {Q:Exit->Act->World->Prop} {E:Prop} (hg:o.guard=none) (d x:Operand) (dT sT:TypeId) (u7:o.op=Op.call {callee:=Callee.builtin Builtin.append,args:= #[d,x],argTypes:= #[dT,sT]})
  (v u:Value) (hd:a.eval d=v) (hx:a.eval x=u) {v':Value} {w':World} (hr:(Builtin.append_ #[dT,sT] o.type #[v,u]).run P w= .ok v' w') (hK:K (a.put o.dst v') w'):if Region.wanted o (yielded ops a.tmps)=true then Oper.wp P o a w K Q else E:=by
 have hw:Region.wanted o (yielded ops a.tmps)=true:=by simp [Region.wanted,hg]
 rw [if_pos hw]
 unfold Oper.wp
 simp [execOp,u7,resolve,invoke,builtin,hd,hx,hr,Result.andThen]
 exact hK
theorem vf (w:World) (t ty e:TypeId) (i:TypeInfo) (ht:P.underlying t=some (.slice e)) (hi:P.info? e=some i) (g Bq Mi:Nat) (cur:Array Value) (te:TypeId) (fr:Nat×Nat) (hg:w.heap[g]?=some (.cells cur te fr)) (gv:∀j,j<cur.size-> ¬(fr.1≤j∧j<fr.2))
  (a:Addr) (m c:Nat) (news:List Value) (hl:news.length=m*i.size) (wg:∀j u,news[j]?=some u->w.cell? (a.add j)=some u) (h1:∀u∈news,u.oneCell'=true) (mC:Bq+m≤Mi) (ml:Bq*i.size+news.length≤cur.size) :
  (Builtin.append_ #[t,t] ty #[.slice (some ⟨g,0,none⟩) Bq Mi,.slice (some a) m c]).run P w= .ok (.slice (some ⟨g,0,none⟩) (Bq+m) Mi) (w.setRow g (cur.toList.take (Bq*i.size)++news++cur.toList.drop (Bq*i.size+news.length)).toArray):=by
 have hf:=run_firstCells_some (P:=P) w i.size m a m c news hl wg
 have dI:=cN P g te fr cur.size gv (Bq*i.size) news 0 cur w hg (by simpa using ml) rfl h1
 simp only [Nat.add_zero] at dI
 simp [Builtin.append_,run_underlying ht,sizeOf,typeInfo,hi,Builtin.lenOf,mC,hf,Addr.add_lit,dI]
theorem wT (w:World) (t e ty:TypeId) (z:Value) (ht:P.underlying t=some (.slice e)) (hv:∀w,(zeroValue e).run P w= .ok z w) (g o n c:Nat) (hn:0<n) (cur:Array Value) (te:TypeId) (fr:Nat×Nat) (hg:w.heap[g]?=some (.cells cur te fr)) (gv:∀j,j<cur.size-> ¬(fr.1≤j∧j<fr.2))
  (zs:List Value) (hz:(Builtin.zeroCells z.cells n).toList=zs) (h1:∀u∈zs,u.oneCell'=true) (ml:o+zs.length≤cur.size) :
  (Builtin.clear_ #[t] ty #[.slice (some ⟨g,o,none⟩) n c]).run P w= .ok (.tuple #[]) (w.setRow g (cur.toList.take o++zs++cur.toList.drop (o+zs.length)).toArray):=by
 have dI:=cN P g te fr cur.size gv o zs 0 cur w hg (by simpa using ml) rfl h1
 simp only [Nat.add_zero] at dI
 obtain ⟨m,rfl⟩:∃m,n=m+1:=⟨n-1,ah⟩
 simp [Builtin.clear_,run_underlying ht,hv,hz,dI]
end
def JB:Value:=.agg #[.string ⟨#[]⟩,.int .i64 0,.int .u64 0,.int .u64 0]
def IU (cur:List Value) (n i:Nat):List Value:=cur.take (i*4)++(cur.take (n*4)).drop ((i+1)*4)
set_option maxHeartbeats 4000000 in
set_option maxRecDepth 1000000 in
theorem CI (w:World) (g n m c i j:Nat) (hj:j=i+1) (hm:n=m+1) (cur:Array Value) (te:TypeId) (fr:Nat×Nat) (hg:w.heap[g]?=some (.cells cur te fr)) (gv:∀t,t<cur.size-> ¬(fr.1≤t∧t<fr.2)) (hs:cur.size=4*c) (hn:n≤c) (hi:i<n) (h1:∀(t:Nat) u,t<n*4->cur[t]?=some u->u.oneCell'=true) :
  Calls Tryz.prog 152 #[.slice (some ⟨g,0,none⟩) n c,.int .i64 i,.int .i64 j] w fun e w'=>e= .returned (.slice (some ⟨g,0,none⟩) m c)∧ ∃cur',w'=w.drew.setRow g cur'∧cur'.size=cur.size∧ ∀t,t<m*4->cur'[t]?=(IU cur.toList n i)[t]?:=by
 have mixed:Tryz.prog.follows .mixedOrders=true:=by kernel_rfl
 obtain ⟨i0,N7,lr,Q8⟩:∃i0:TypeInfo,Tryz.prog.info? 51=some i0∧i0.size=4∧i0.zero=some JB:=by
  have h:(Tryz.prog.info? 51).map (fun i=>(i.size,i.zero))=some (4,some JB):=by kernel_rfl
  cases hp:Tryz.prog.info? 51 with
  | none=>rw [hp] at h;cases h
  | some i=>rw [hp] at h;simp at h;exact ⟨i,rfl,h⟩
 have gw:cur.toList.length=4*c:=by simp [hs]
 obtain ⟨news,wg⟩:∃news,news=(cur.toList.take (n*4)).drop (j*4):=⟨_,rfl⟩
 have DR:news.length=(n-j)*4:=by rw [wg,List.length_drop,List.length_take,gw];omega
 have MQ:∀t,t<(n-j)*4->news[t]?=cur[j*4+t]?:=fun t ht=>by
  rw [wg,List.getElem?_drop,List.getElem?_take,if_pos ah,Array.getElem?_toList]
 obtain ⟨A,hA,gk⟩:∃A:Addr,(if c=j then some (⟨g,0,none⟩:Addr) else some ⟨g,j*4,none⟩)=some A∧(∀t u,news[t]?=some u->w.drew.cell? (A.add t)=some u):=by
  by_cases h:c=j
  ·refine ⟨⟨g,0,none⟩,by simp [h],fun t u hu=>?_⟩
   have h0:news.length=0:=by rw [DR];omega
   rw [List.length_eq_zero_iff.1 h0] at hu
   simp at hu
  ·refine ⟨⟨g,j*4,none⟩,by simp [h],fun t u hu=>?_⟩
   have ht:t<(n-j)*4:=by
    have:=(List.getElem?_eq_some_iff.1 hu).1
    rwa [DR] at this
   rw [MQ t ht] at hu
   rw [Addr.add_lit]
   show w.cell? _=_
   simp only [World.cell?,hg]
   exact hu
 have ui:∀u∈news,u.oneCell'=true:=fun u hu=>by
  obtain ⟨t,ht⟩:=List.getElem?_of_mem hu
  have z_:t<(n-j)*4:=by
   have:=(List.getElem?_eq_some_iff.1 ht).1
   rwa [DR] at this
  rw [MQ t z_] at ht
  exact h1 _ _ ah ht
 obtain ⟨rh,DX⟩:∃rh,rh=(cur.toList.take (i*4)++news++cur.toList.drop (i*4+news.length)).toArray:=⟨_,rfl⟩
 have LM:∀ty,(Builtin.append_ #[38,38] ty #[.slice (some ⟨g,0,none⟩) i c,.slice (some A) (n-j) (c-j)]).run Tryz.prog w.drew= .ok (.slice (some ⟨g,0,none⟩) m c) (w.drew.setRow g rh):=fun ty=>by
  have h:=vf (P:=Tryz.prog) w.drew 38 ty 51 i0 Tryz.underlying38 N7 g i c cur te fr hg gv A (n-j) (c-j) news (by rw [DR,lr]) gk ui ah (by rw [lr,DR,hs];omega)
  rw [lr,show i+(n-j)=m by omega] at h
  rw [DX];exact h
 have gI:rh.size=cur.size:=by
  rw [DX];simp only [List.size_toArray,List.length_append,List.length_take,List.length_drop,DR,gw,hs];omega
 have N9:(w.drew.setRow g rh).heap[g]?=some (.cells rh te fr):=setRow_heap w.drew g cur rh te fr hg
 obtain ⟨zs,uf⟩:∃zs:List Value,zs= [.string ⟨#[]⟩,.int .i64 0,.int .u64 0,.int .u64 0]:=⟨_,rfl⟩
 have Qe:(Builtin.zeroCells JB.cells 1).toList=zs:=by rw [uf];kernel_rfl
 have FO:zs.length=4:=by rw [uf];rfl
 have SX:∀u∈zs,u.oneCell'=true:=by rw [uf];simp [Value.oneCell']
 obtain ⟨CN,DW⟩:∃CN,CN=(rh.toList.take (m*4)++zs++rh.toList.drop (m*4+zs.length)).toArray:=⟨_,rfl⟩
 have U0:∀ty,(Builtin.clear_ #[38] ty #[.slice (some ⟨g,m*4,none⟩) (n-m) (c-m)]).run Tryz.prog (w.drew.setRow g rh)= .ok (.tuple #[]) ((w.drew.setRow g rh).setRow g CN):=fun ty=>by
  rw [show n-m=1 by omega,DW]
  exact wT (P:=Tryz.prog) _ _ _ ty JB Tryz.underlying38 (fun w=>iE (by rw [N7];exact Q8)) g _ 1 _ ah rh te fr N9 (fun t ht=>gv t ah) zs Qe SX (by rw [FO,gI,hs];omega)
 have fin:∃cur',(w.drew.setRow g rh).setRow g CN=w.drew.setRow g cur'∧cur'.size=cur.size∧ ∀t,t<m*4->cur'[t]?=(IU cur.toList n i)[t]?:=by
  refine ⟨CN,?_,?_,fun t ht=>?_⟩
  ·unfold World.setRow
   congr 1
   apply Array.ext_getElem?
   intro b
   simp only [Array.getElem?_modify]
   by_cases hb:g=b
   ·subst hb
    simp only [if_pos]
    rw [show w.drew.heap[g]?=some (.cells cur te fr) from hg];rfl
   ·simp only [if_neg hb]
  ·rw [DW];simp only [List.size_toArray,List.length_append,List.length_take,List.length_drop,FO,Array.length_toList,gI,hs];omega
  ·rw [DW,List.getElem?_toArray,List.append_assoc,List.getElem?_append_left (by rw [List.length_take,Array.length_toList,gI,hs];omega),List.getElem?_take,if_pos ht,DX]
   rw [List.getElem?_append_left (by simp only [List.length_append,List.length_take,DR,gw];omega),wg];unfold IU;rw [←hj]
 have b1:i≤c:=ah
 have b2:j≤c:=ah
 have b3:¬((i:Int)=(j:Int)):=ah
 have b4:j≤n:=ah
 have b5:i≤n:=ah
 have b6:i≤j:=ah
 have e1:i+(n-j)=m:=ah
 have b8:m≤n:=ah
 have b9:m≤c:=ah
 have Wj:¬(c=m):=ah
 clear hj hm
 clear DX DW wg MQ gk ui gI N9 uf Qe FO SX DR gw h1
 go_enter Tryz.func152,Tryz.ntmps152
 go_wp2_with fail
 go_region_law_o (refine qo rfl (.tmp 22) (.tmp 25) 38 38 rfl (.slice (some ⟨g,0,none⟩) i c) (.slice (some A) (n-j) (c-j)) (by simp [Act.eval,Act.put]) (by simp [Act.eval,Act.put]) (LM _) ?_)
 go_wp2
 go_ret
 exact ⟨rfl,fin⟩
theorem IQ (l:List Mem) (i:Nat) (hi:i<l.length) (cur:List Value) (t:Nat) (u:Value) (x:AV) (hu:(IU cur l.length i)[t]?=some u) (hx:(af aP (mJ l i))[t]?=some x) (hl:l.length*4≤cur.length):∃k:Nat,cur[k]?=some u∧(af aP l)[k]?=some x:=by
 have MU:(af aP l).length=l.length*4:=aG (e:=4) (fun _=>rfl) ..
 have e:af aP (mJ l i)=(af aP l).take (i*4)++(af aP l).drop ((i+1)*4):=by
  rw [q9 (e:=4) (fun _=>rfl),q_ (e:=4) (fun _=>rfl),fO];rfl
 rw [e] at hx
 unfold IU at hu
 by_cases c:t<i*4
 ·rw [List.getElem?_append_left (by rw [List.length_take];omega),List.getElem?_take,if_pos c] at hu hx
  exact ⟨t,hu,hx⟩
 ·rw [List.getElem?_append_right (by rw [List.length_take];omega),List.length_take,Nat.min_eq_left ah,List.getElem?_drop] at hu hx
  rw [List.getElem?_take] at hu
  split at hu
  ·exact ⟨_,hu,hx⟩
  ·cases hu
theorem AO (l:List Mem) (i:Nat) (hi:i<l.length):gb Tryz.prog 152 [.ref 5,ai i,ai (i+1:Nat)] [(5,⟨4,true,false,af aP l⟩)] (.own 4 (af aP (mJ l i))) [(5,⟨4,true,false,af aP []⟩)]:=by
 have MU:(af aP l).length=l.length*4:=aG (e:=4) (fun _=>rfl) ..
 have sK:(af aP (mJ l i)).length=(l.length-1)*4:=by
  rw [aG (e:=4) (fun _=>rfl)]
  unfold mJ
  simp only [List.length_append,List.length_take,List.length_drop];omega
 have pJ:dh (af aP l):=hY (fun x=>ij rfl) _
 intro w S φ vs jR V9 hL hlen dz
 obtain ⟨a,b,c,rfl⟩:=PZ hlen rfl
 have d0:=dz 0 a _ rfl rfl
 have hr:=hL.rows 5 _ rfl
 have eb:b= .int .i64 i:=bE (dz 1 b _ rfl rfl)
 have ec:c= .int .i64 (i+1:Nat):=bE (dz 2 c _ rfl rfl)
 subst eb ec
 cases d0 with
 | rep h=>cases h
 | cw _ e' hI =>
  have hI:some (_,(af aP l).length,_)=some (e',0,none):=hI
  injection hI with hI;injection hI with _ hI;injection hI with hI _
  omega
 | ref _ e m g n k hI hm hk hx hs =>
  have hI:some (4,(af aP l).length,φ 5)=some (e,m,some g):=hI
  injection hI with hI;injection hI with e1 hI;injection hI with e2 bY
  subst e1 e2
  rw [bY] at hr
  obtain ⟨cur,te,fr,hg,gv,hle,-,hc⟩:=hr
  have wm:cur.size=4*k:=by unfold aS at hs;rw [hg] at hs;exact hs
  have DR:n=l.length:=ah
  subst DR
  have bV:∀(j:Nat) u x,cur[j]?=some u->(af aP l)[j]?=some x->cp S w u x:=hc
  refine (CI w g l.length (l.length-1) k i (i+1) rfl ah cur te fr hg gv wm hk hi fun t u ht hu=>?_).mono ?_
  ·have T5:(af aP l)[t]?=some (af aP l)[t]:=List.getElem?_eq_getElem ah
   exact Dr (bV t u _ hu T5) (pJ _ (List.getElem_mem _))
  rintro e w' ⟨rfl,cur',rfl,bU,RY⟩
  have dc:(w.drew.setRow g cur').heap.size=w.heap.size:=by simp [World.setRow]
  have HY:g<w.heap.size:=hL.lt 5 g bY
  have SN:∀id,id≠5->φ id=none:=fun id h=>hL.only id (by
   rw [aB,if_neg fun e=>h e.symm];rfl)
  refine ⟨_,[g],fun _=>none,rfl,rfl,rfl,rfl,by rw [dc];exact Nat.le_refl _,fun b hb U3=>?_,by simp,fun b hb=>?_,fun id b h=>(by cases h),fun id b _ h=>(by cases h),⟨fun b hb=>?_,fun _ _=>rfl,fun id oM b h=>(by cases h),fun id b h=>(by cases h),fun id r hr=>?_⟩,?_⟩
  ·exact setRow_other w.drew g b _ fun e=>U3 ⟨5,by rw [e];exact bY⟩
  ·obtain rfl:=List.mem_singleton.1 hb
   exact ⟨.inr ⟨5,bY⟩,by rw [dc];exact HY,fun ⟨id,h⟩=>by cases h⟩
  ·refine ⟨?_,hb.2.2⟩
   rcases hb.1 with h|h
   ·rw [dc];exact (hL.sep b h).1
   ·exact h.2
  ·rw [aB] at hr
   split at hr
   ·cases hr;rfl
   ·cases hr
  ·refine .inl (.inl (.own g (l.length-1) k 4 _ cur' te fr (setRow_heap w.drew g cur cur' te fr hg) (fun t ht=>gv t ah) (by rw [sK];omega) ah hx (by rw [bU,wm]) fun t u x hu hx=>?_))
   have ht:t<(l.length-1)*4:=by have:=(List.getElem?_eq_some_iff.1 hx).1;omega
   rw [RY t ht] at hu
   obtain ⟨q,h1,h2⟩:=IQ l i hi cur.toList t u x hu hx (by simp;omega)
   refine (bV q u x (by simpa using h1) h2).mono fun b hb=>?_
   have cK:b≠g:=fun e=>(hL.sep b hb).2 ⟨5,by rw [e];exact bY⟩
   exact ⟨⟨.inl hb,fun q=>cK (List.mem_singleton.1 q),fun ⟨id,h⟩=>(by cases h)⟩,setRow_other w.drew g b _ cK⟩
end Go.Proofs.YtjgbhhnghedgdaaGreatDoor
