import Derived.Test.YtjgbhhnghedgdaaGreatDoorZaRY
import Derived.Test.YtjgbhhnghedgdaaGreatDoorZaTk3
import Derived.Shelf.RegionOpenPlain
import Derived.WalkKit
import Derived.Lib.SliceRun
set_option linter.all false
namespace Go.Proofs.YtjgbhhnghedgdaaGreatDoor
open Go.RowKit
set_option maxRecDepth 100000
set_option maxHeartbeats 4000000
theorem BI (l:List UInt64) (hl:l.length≤1000000):bK Tryz.prog 52 [.sl 1 (aj l)] (.own 1 (aj l)):=by
 have s6:(aj l).length=l.length:=aA l
 refine zO Tryz.func52 8<|zq<|zS<|zS<|bf.isNil (t:=27) (el:=22) (x:=.tmp 0) (d1:=3) (d2:=4) (e:=1) (row:=aj l) bh bh bh bh bh bh bh Tryz.underlying27 bh bh bh fun b hb=>ak ?_
 cases b with
 | true =>
  have e:=hb rfl
  refine zT 4<|zq<|dk (zV [yI e])
 | false =>
  refine zF 4<|a_<|zP 1 [yH [(2,{b:=false})]] [.ae [2,4,0] [7]] [yB (cE (aj l)) (pT _),yO ((0+(aj l).length)*8≤140737488355328)]<|zR (bV)
theorem uk (l:List Mem) (hl:l.length≤1000000):bK Tryz.prog 60 [.sl 4 (af aH l)] (.own 4 (af aH l)):=by
 have s6:(af aH l).length=l.length*4:=aF (e:=4) (fun _=>rfl) ..
 refine zO Tryz.func60 8<|zq<|zS<|zS<|bf.isNil (t:=38) (el:=51) (x:=.tmp 0) (d1:=3) (d2:=4) (e:=4) (row:=af aH l) bh bh bh bh bh bh bh Tryz.underlying38 bh bh bh fun b hb=>ak ?_
 cases b with
 | true =>
  have e:=hb rfl
  refine zT 4<|zq<|dk (zV [yI e])
 | false =>
  refine zF 4<|a_<|zP 1 [yH [(2,{b:=false})]] [.ae [2,4,0] [7]] [yB (cE (af aH l)) (dD (fun x=>dJ rfl) _),yO ((0+(af aH l).length)*40≤562949953421312)]<|zR (bV)
theorem sj (d:m0) (h1:d.box.length≤1000000) (h2:d.aa.length≤1000000) (h3:d.au.length≤1000000):bK Tryz.prog 54 [.agg (bc d)] (.agg (Ql d)):=by
 have hc:=BT d.aa h2
 refine zO Tryz.func54 16<|zP 5 [{},yH [(2,yV (AV.own 1 (ag d.box)))],yH [(2,{av:=some (AV.own 1 (af (fun s↦ [db s]) d.aa)),b:=false})],yH [(2,yV (AV.own 1 (aj d.au)))],{}] [.ae [2,1,0] [2,1,13,9,5]] [yI (Gj d.box ah),yI (aR d.box),yL 3 7,yI hc,yL 4 7,yI (BI d.au h3),yB (lj (aj d.au)) (gm _),yL 5 7,yL 7 7]<|zR (bV)
theorem AF (l:List gk) (v:gk) (hl:l.length≤1000):ga Tryz.prog 53 [.ref 5,ai l.length,.sl 4 (af a8 [v])] [(5,⟨4,true,false,af a8 l⟩)] (.own 4 (af a8 (l++ [v]))) [(5,⟨4,true,false,af a8 []⟩)]:=by
 have s6:(af a8 l).length=l.length*4:=aF (e:=4) (fun _=>rfl) ..
 have V5:(af a8 [v]).length=4:=rfl
 refine m5 Tryz.func53 95<|bf.sv [.vo 5 77] bh<|bf.oR (bS.add 5 4 bh)<|zP 3 [{},yH [(2,{k:=l.length})],yH [(1,{k:=1})]] [.ae [7,6,0,1,2] [5,77]] [yR (↑l.length:Int),yO (l.length*4≤(af a8 l).length),yR (1*4)]<|zS<|zq<|bj 16 ((↑(1:Nat):Int) == (0:Int)) bE<|a_<|zP 1 [yH [(1,{k:=l.length})]] [.ae [8,16,7,6,0,1,2] [5,77]] [yI s6]<|zS<|zP 1 [{}] [.ae [22,8,16,7,6,0,1,2] [5,77]] []<|du 22 ((↑l.length:Int) == (↑l.length:Int)) fb<|zQ 1 [{}] [yO (((af a8 l).length+4)*72≤562949953421312)]<|dk (zG [] [yB (af a8 l++af a8 [v]=af a8 (l++ [v])) (fB _ _),yB ([]=af a8 []) rfl])
section
variable {P:Program}
theorem qJ {ops:Array Oper} {o:Oper} {a:Act} {w:World} {K:Act->World->Prop} {Q:Exit->Act->World->Prop} {E:Prop} (hg:o.guard=none) (d x:Operand) (dT sT:TypeId) (vp:o.op=Op.call {callee:=Callee.builtin Builtin.append,args:= #[d,x],argTypes:= #[dT,sT]})
  (v u:Value) (hd:a.eval d=v) (hx:a.eval x=u) {v':Value} {w':World} (hr:(Builtin.append_ #[dT,sT] o.type #[v,u]).run P w= .ok v' w') (hK:K (a.put o.dst v') w'):if Region.wanted o (yielded ops a.tmps)=true then Oper.wp P o a w K Q else E:=by
 have hw:Region.wanted o (yielded ops a.tmps)=true:=by simp [Region.wanted,hg]
 rw [if_pos hw]
 unfold Oper.wp
 simp [execOp,vp,resolve,invoke,builtin,hd,hx,hr,Result.andThen]
 exact hK
theorem vx (w:World) (t ty e:TypeId) (i:TypeInfo) (ht:P.underlying t=some (.slice e)) (hi:P.info? e=some i) (g BV MG:Nat) (cur:Array Value) (te:TypeId) (fr:Nat×Nat) (hg:w.heap[g]?=some (.cells cur te fr)) (gw:∀j,j<cur.size-> ¬(fr.1≤j∧j<fr.2))
  (a:Addr) (m c:Nat) (news:List Value) (hl:news.length=m*i.size) (wK:∀j u,news[j]?=some u->w.cell? (a.add j)=some u) (h1:∀u∈news,u.oneCell'=true) (mR:BV+m≤MG) (mF:BV*i.size+news.length≤cur.size) :
  (Builtin.append_ #[t,t] ty #[.slice (some ⟨g,0,none⟩) BV MG,.slice (some a) m c]).run P w= .ok (.slice (some ⟨g,0,none⟩) (BV+m) MG) (w.setRow g (cur.toList.take (BV*i.size)++news++cur.toList.drop (BV*i.size+news.length)).toArray):=by
 have hf:=run_firstCells_some (P:=P) w i.size m a m c news hl wK
 have dP:=cY P g te fr cur.size gw (BV*i.size) news 0 cur w hg (by simpa using mF) rfl h1
 simp only [Nat.add_zero] at dP
 simp [Builtin.append_,run_underlying ht,sizeOf,typeInfo,hi,Builtin.lenOf,mR,hf,Addr.add_lit,dP]
theorem xk (w:World) (t e ty:TypeId) (z:Value) (ht:P.underlying t=some (.slice e)) (hv:∀w,(zeroValue e).run P w= .ok z w) (g o n c:Nat) (hn:0<n) (cur:Array Value) (te:TypeId) (fr:Nat×Nat) (hg:w.heap[g]?=some (.cells cur te fr)) (gw:∀j,j<cur.size-> ¬(fr.1≤j∧j<fr.2))
  (zs:List Value) (hz:(Builtin.zeroCells z.cells n).toList=zs) (h1:∀u∈zs,u.oneCell'=true) (mF:o+zs.length≤cur.size) :
  (Builtin.clear_ #[t] ty #[.slice (some ⟨g,o,none⟩) n c]).run P w= .ok (.tuple #[]) (w.setRow g (cur.toList.take o++zs++cur.toList.drop (o+zs.length)).toArray):=by
 have dP:=cY P g te fr cur.size gw o zs 0 cur w hg (by simpa using mF) rfl h1
 simp only [Nat.add_zero] at dP
 obtain ⟨m,rfl⟩:∃m,n=m+1:=⟨n-1,ah⟩
 simp [Builtin.clear_,run_underlying ht,hv,hz,dP]
end
def J9:Value:=.agg #[.string ⟨#[]⟩,.int .i64 0,.int .u64 0,.int .u64 0]
def Js (cur:List Value) (n i:Nat):List Value:=cur.take (i*4)++(cur.take (n*4)).drop ((i+1)*4)
set_option maxHeartbeats 4000000 in
set_option maxRecDepth 1000000 in
theorem Dq (w:World) (g n m c i j:Nat) (hj:j=i+1) (hm:n=m+1) (cur:Array Value) (te:TypeId) (fr:Nat×Nat) (hg:w.heap[g]?=some (.cells cur te fr)) (gw:∀t,t<cur.size-> ¬(fr.1≤t∧t<fr.2)) (hs:cur.size=4*c) (hn:n≤c) (hi:i<n) (h1:∀(t:Nat) u,t<n*4->cur[t]?=some u->u.oneCell'=true) :
  Calls Tryz.prog 152 #[.slice (some ⟨g,0,none⟩) n c,.int .i64 i,.int .i64 j] w fun e w'=>e= .returned (.slice (some ⟨g,0,none⟩) m c)∧ ∃cur',w'=w.drew.setRow g cur'∧cur'.size=cur.size∧ ∀t,t<m*4->cur'[t]?=(Js cur.toList n i)[t]?:=by
 have mixed:Tryz.prog.follows .mixedOrders=true:=by kernel_rfl
 obtain ⟨i0,Ow,lH,Rs⟩:∃i0:TypeInfo,Tryz.prog.info? 51=some i0∧i0.size=4∧i0.zero=some J9:=by
  have h:(Tryz.prog.info? 51).map (fun i=>(i.size,i.zero))=some (4,some J9):=by kernel_rfl
  cases hp:Tryz.prog.info? 51 with
  | none=>rw [hp] at h;cases h
  | some i=>rw [hp] at h;simp at h;exact ⟨i,rfl,h⟩
 have gl:cur.toList.length=4*c:=by simp [hs]
 obtain ⟨news,wK⟩:∃news,news=(cur.toList.take (n*4)).drop (j*4):=⟨_,rfl⟩
 have Ey:news.length=(n-j)*4:=by rw [wK,List.length_drop,List.length_take,gl];omega
 have Nd:∀t,t<(n-j)*4->news[t]?=cur[j*4+t]?:=fun t ht=>by
  rw [wK,List.getElem?_drop,List.getElem?_take,if_pos ah,Array.getElem?_toList]
 obtain ⟨A,hA,gu⟩:∃A:Addr,(if c=j then some (⟨g,0,none⟩:Addr) else some ⟨g,j*4,none⟩)=some A∧(∀t u,news[t]?=some u->w.drew.cell? (A.add t)=some u):=by
  by_cases h:c=j
  ·refine ⟨⟨g,0,none⟩,by simp [h],fun t u hu=>?_⟩
   have h0:news.length=0:=by rw [Ey];omega
   rw [List.length_eq_zero_iff.1 h0] at hu
   simp at hu
  ·refine ⟨⟨g,j*4,none⟩,by simp [h],fun t u hu=>?_⟩
   have ht:t<(n-j)*4:=by
    have:=(List.getElem?_eq_some_iff.1 hu).1
    rwa [Ey] at this
   rw [Nd t ht] at hu
   rw [Addr.add_lit]
   show w.cell? _=_
   simp only [World.cell?,hg]
   exact hu
 have uC:∀u∈news,u.oneCell'=true:=fun u hu=>by
  obtain ⟨t,ht⟩:=List.getElem?_of_mem hu
  have AK:t<(n-j)*4:=by
   have:=(List.getElem?_eq_some_iff.1 ht).1
   rwa [Ey] at this
  rw [Nd t AK] at ht
  exact h1 _ _ ah ht
 obtain ⟨rD,ED⟩:∃rD,rD=(cur.toList.take (i*4)++news++cur.toList.drop (i*4+news.length)).toArray:=⟨_,rfl⟩
 have Md:∀ty,(Builtin.append_ #[38,38] ty #[.slice (some ⟨g,0,none⟩) i c,.slice (some A) (n-j) (c-j)]).run Tryz.prog w.drew= .ok (.slice (some ⟨g,0,none⟩) m c) (w.drew.setRow g rD):=fun ty=>by
  have h:=vx (P:=Tryz.prog) w.drew 38 ty 51 i0 Tryz.underlying38 Ow g i c cur te fr hg gw A (n-j) (c-j) news (by rw [Ey,lH]) gu uC ah (by rw [lH,Ey,hs];omega)
  rw [lH,show i+(n-j)=m by omega] at h
  rw [ED];exact h
 have gU:rD.size=cur.size:=by
  rw [ED];simp only [List.size_toArray,List.length_append,List.length_take,List.length_drop,Ey,gl,hs];omega
 have FL:(w.drew.setRow g rD).heap[g]?=some (.cells rD te fr):=setRow_heap w.drew g cur rD te fr hg
 obtain ⟨zs,uz⟩:∃zs:List Value,zs= [.string ⟨#[]⟩,.int .i64 0,.int .u64 0,.int .u64 0]:=⟨_,rfl⟩
 have QG:(Builtin.zeroCells J9.cells 1).toList=zs:=by rw [uz];kernel_rfl
 have Gw:zs.length=4:=by rw [uz];rfl
 have Tg:∀u∈zs,u.oneCell'=true:=by rw [uz];simp [Value.oneCell']
 obtain ⟨Dv,EC⟩:∃Dv,Dv=(rD.toList.take (m*4)++zs++rD.toList.drop (m*4+zs.length)).toArray:=⟨_,rfl⟩
 have Vb:∀ty,(Builtin.clear_ #[38] ty #[.slice (some ⟨g,m*4,none⟩) (n-m) (c-m)]).run Tryz.prog (w.drew.setRow g rD)= .ok (.tuple #[]) ((w.drew.setRow g rD).setRow g Dv):=fun ty=>by
  rw [show n-m=1 by omega,EC]
  exact xk (P:=Tryz.prog) _ _ _ ty J9 Tryz.underlying38 (fun w=>iO (by rw [Ow];exact Rs)) g _ 1 _ ah rD te fr FL (fun t ht=>gw t ah) zs QG Tg (by rw [Gw,gU,hs];omega)
 have fin:∃cur',(w.drew.setRow g rD).setRow g Dv=w.drew.setRow g cur'∧cur'.size=cur.size∧ ∀t,t<m*4->cur'[t]?=(Js cur.toList n i)[t]?:=by
  refine ⟨Dv,?_,?_,fun t ht=>?_⟩
  ·unfold World.setRow
   congr 1
   apply Array.ext_getElem?
   intro b
   simp only [Array.getElem?_modify]
   by_cases hb:g=b
   ·subst hb
    simp only [if_pos]
    rw [show w.drew.heap[g]?=some (.cells cur te fr) from hg];rfl
   ·simp only [if_neg hb]
  ·rw [EC];simp only [List.size_toArray,List.length_append,List.length_take,List.length_drop,Gw,Array.length_toList,gU,hs];omega
  ·rw [EC,List.getElem?_toArray,List.append_assoc,List.getElem?_append_left (by rw [List.length_take,Array.length_toList,gU,hs];omega),List.getElem?_take,if_pos ht,ED]
   rw [List.getElem?_append_left (by simp only [List.length_append,List.length_take,Ey,gl];omega),wK];unfold Js;rw [←hj]
 have b1:i≤c:=ah
 have b2:j≤c:=ah
 have b3:¬((i:Int)=(j:Int)):=ah
 have b4:j≤n:=ah
 have b5:i≤n:=ah
 have b6:i≤j:=ah
 have e1:i+(n-j)=m:=ah
 have b8:m≤n:=ah
 have b9:m≤c:=ah
 have Wz:¬(c=m):=ah
 clear hj hm
 clear ED EC wK Nd gu uC gU FL uz QG Gw Tg Ey gl h1
 go_enter Tryz.func152,Tryz.ntmps152
 go_wp2_with fail
 go_region_law_o (refine qJ rfl (.tmp 22) (.tmp 25) 38 38 rfl (.slice (some ⟨g,0,none⟩) i c) (.slice (some A) (n-j) (c-j)) (by simp [Act.eval,Act.put]) (by simp [Act.eval,Act.put]) (Md _) ?_)
 go_wp2
 go_ret
 exact ⟨rfl,fin⟩
theorem Jr (l:List Mem) (i:Nat) (hi:i<l.length) (cur:List Value) (t:Nat) (u:Value) (x:AV) (hu:(Js cur l.length i)[t]?=some u) (hx:(af aH (po l i))[t]?=some x) (hl:l.length*4≤cur.length):∃k:Nat,cur[k]?=some u∧(af aH l)[k]?=some x:=by
 have Nh:(af aH l).length=l.length*4:=aF (e:=4) (fun _=>rfl) ..
 have e:af aH (po l i)=(af aH l).take (i*4)++(af aH l).drop ((i+1)*4):=by
  rw [oh (e:=4) (fun _=>rfl),oi (e:=4) (fun _=>rfl),fB];rfl
 rw [e] at hx
 unfold Js at hu
 by_cases c:t<i*4
 ·rw [List.getElem?_append_left (by rw [List.length_take];omega),List.getElem?_take,if_pos c] at hu hx
  exact ⟨t,hu,hx⟩
 ·rw [List.getElem?_append_right (by rw [List.length_take];omega),List.length_take,Nat.min_eq_left ah,List.getElem?_drop] at hu hx
  rw [List.getElem?_take] at hu
  split at hu
  ·exact ⟨_,hu,hx⟩
  ·cases hu
theorem Bo (l:List Mem) (i:Nat) (hi:i<l.length):ga Tryz.prog 152 [.ref 5,ai i,ai (i+1:Nat)] [(5,⟨4,true,false,af aH l⟩)] (.own 4 (af aH (po l i))) [(5,⟨4,true,false,af aH []⟩)]:=by
 have Nh:(af aH l).length=l.length*4:=aF (e:=4) (fun _=>rfl) ..
 have qD:(af aH (po l i)).length=(l.length-1)*4:=by
  rw [aF (e:=4) (fun _=>rfl)]
  unfold po
  simp only [List.length_append,List.length_take,List.length_drop];omega
 have oP:cE (af aH l):=dD (fun x=>dJ rfl) _
 intro w S φ vs jZ Wm hL hlen dU
 obtain ⟨a,b,c,rfl⟩:=Qu hlen rfl
 have d0:=dU 0 a _ rfl rfl
 have hr:=hL.rows 5 _ rfl
 have eb:b= .int .i64 i:=bL (dU 1 b _ rfl rfl)
 have ec:c= .int .i64 (i+1:Nat):=bL (dU 2 c _ rfl rfl)
 subst eb ec
 cases d0 with
 | rep h=>cases h
 | cD _ e' hI =>
  have hI:some (_,(af aH l).length,_)=some (e',0,none):=hI
  injection hI with hI;injection hI with _ hI;injection hI with hI _
  omega
 | ref _ e m g n k hI hm hk hx hs =>
  have hI:some (4,(af aH l).length,φ 5)=some (e,m,some g):=hI
  injection hI with hI;injection hI with e1 hI;injection hI with e2 cm
  subst e1 e2
  rw [cm] at hr
  obtain ⟨cur,te,fr,hg,gw,hle,-,hc⟩:=hr
  have wM:cur.size=4*k:=by unfold aV at hs;rw [hg] at hs;exact hs
  have Ey:n=l.length:=ah
  subst Ey
  have bZ:∀(j:Nat) u x,cur[j]?=some u->(af aH l)[j]?=some x->cz S w u x:=hc
  refine (Dq w g l.length (l.length-1) k i (i+1) rfl ah cur te fr hg gw wM hk hi fun t u ht hu=>?_).mono ?_
  ·have Um:(af aH l)[t]?=some (af aH l)[t]:=List.getElem?_eq_getElem ah
   exact D8 (bZ t u _ hu Um) (oP _ (List.getElem_mem _))
  rintro e w' ⟨rfl,cur',rfl,bY,Se⟩
  have dw:(w.drew.setRow g cur').heap.size=w.heap.size:=by simp [World.setRow]
  have Nb:g<w.heap.size:=hL.lt 5 g cm
  have Tb:∀id,id≠5->φ id=none:=fun id h=>hL.only id (by
   rw [aE,if_neg fun e=>h e.symm];rfl)
  refine ⟨_,[g],fun _=>none,rfl,rfl,rfl,rfl,by rw [dw];exact Nat.le_refl _,fun b hb Vf=>?_,by simp,fun b hb=>?_,fun id b h=>(by cases h),fun id b _ h=>(by cases h),⟨fun b hb=>?_,fun _ _=>rfl,fun id pd b h=>(by cases h),fun id b h=>(by cases h),fun id r hr=>?_⟩,?_⟩
  ·exact setRow_other w.drew g b _ fun e=>Vf ⟨5,by rw [e];exact cm⟩
  ·obtain rfl:=List.mem_singleton.1 hb
   exact ⟨.inr ⟨5,cm⟩,by rw [dw];exact Nb,fun ⟨id,h⟩=>by cases h⟩
  ·refine ⟨?_,hb.2.2⟩
   rcases hb.1 with h|h
   ·rw [dw];exact (hL.sep b h).1
   ·exact h.2
  ·rw [aE] at hr
   split at hr
   ·cases hr;rfl
   ·cases hr
  ·refine .inl (.inl (.own g (l.length-1) k 4 _ cur' te fr (setRow_heap w.drew g cur cur' te fr hg) (fun t ht=>gw t ah) (by rw [qD];omega) ah hx (by rw [bY,wM]) fun t u x hu hx=>?_))
   have ht:t<(l.length-1)*4:=by have:=(List.getElem?_eq_some_iff.1 hx).1;omega
   rw [Se t ht] at hu
   obtain ⟨q,h1,h2⟩:=Jr l i hi cur.toList t u x hu hx (by simp;omega)
   refine (bZ q u x (by simpa using h1) h2).mono fun b hb=>?_
   have cV:b≠g:=fun e=>(hL.sep b hb).2 ⟨5,by rw [e];exact cm⟩
   exact ⟨⟨.inl hb,fun q=>cV (List.mem_singleton.1 q),fun ⟨id,h⟩=>(by cases h)⟩,setRow_other w.drew g b _ cV⟩
end Go.Proofs.YtjgbhhnghedgdaaGreatDoor
