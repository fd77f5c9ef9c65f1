import Derived.Test.YtjgbhhnghedgdaaGreatDoorZpRY
import Derived.Test.YtjgbhhnghedgdaaGreatDoorZpTk3
import Derived.Shelf.RegionOpenPlain
import Derived.WalkKit
import Derived.Lib.SliceRun
set_option linter.all false
namespace Go.Proofs.YtjgbhhnghedgdaaGreatDoor
open Go.RowKit
set_option maxRecDepth 100000
set_option maxHeartbeats 4000000
theorem Bx (l:List UInt64) (hl:l.length≤1000000):bK Tryz.prog 52 [.sl 1 (ah l)] (.own 1 (ah l)):=by
 have sQ:(ah l).length=l.length:=aB l
 refine zO Tryz.func52 8<|zq<|zS<|zS<|bf.isNil (t:=27) (el:=22) (x:=.tmp 0) (d1:=3) (d2:=4) (e:=1) (row:=ah l) bD bD bD bD bD bD bD Tryz.underlying27 bD bD bD fun b hb=>ak ?_
 cases b with
 | true =>
  have e:=hb rfl
  refine zT 4<|zq<|dt (zV [yI e])
 | false =>
  refine zF 4<|a7<|zP 1 [yH [(2,{b:=false})]] [.aa [2,4,0] [7]] [yB (cH (ah l)) (pL _),yO ((0+(ah l).length)*8≤140737488355328)]<|zR (bU)
theorem uc (l:List Mem) (hl:l.length≤1000000):bK Tryz.prog 60 [.sl 4 (af aI l)] (.own 4 (af aI l)):=by
 have sQ:(af aI l).length=l.length*4:=aE (e:=4) (fun _=>rfl) ..
 refine zO Tryz.func60 8<|zq<|zS<|zS<|bf.isNil (t:=38) (el:=51) (x:=.tmp 0) (d1:=3) (d2:=4) (e:=4) (row:=af aI l) bD bD bD bD bD bD bD Tryz.underlying38 bD bD bD fun b hb=>ak ?_
 cases b with
 | true =>
  have e:=hb rfl
  refine zT 4<|zq<|dt (zV [yI e])
 | false =>
  refine zF 4<|a7<|zP 1 [yH [(2,{b:=false})]] [.aa [2,4,0] [7]] [yB (cH (af aI l)) (dG (fun x=>dP rfl) _),yO ((0+(af aI l).length)*40≤562949953421312)]<|zR (bU)
theorem r9 (d:mU) (h1:d.box.length≤1000000) (h2:d.ae.length≤1000000) (h3:d.au.length≤1000000):bK Tryz.prog 54 [.agg (bg d)] (.agg (PU d)):=by
 have hc:=BI d.ae h2
 refine zO Tryz.func54 16<|zP 5 [{},yH [(2,yV (AV.own 1 (ag d.box)))],yH [(2,{av:=some (AV.own 1 (af (fun s↦ [cZ s]) d.ae)),b:=false})],yH [(2,yV (AV.own 1 (ah d.au)))],{}] [.aa [2,1,0] [2,1,13,9,5]] [yI (FO d.box aj),yI (aQ d.box),yL 3 7,yI hc,yL 4 7,yI (Bx d.au h3),yB (ld (ah d.au)) (gm _),yL 5 7,yL 7 7]<|zR (bU)
theorem Ap (l:List gA) (v:gA) (hl:l.length≤1000):gk Tryz.prog 53 [.ref 5,ai l.length,.sl 4 (af aU [v])] [(5,⟨4,true,false,af aU l⟩)] (.own 4 (af aU (l++ [v]))) [(5,⟨4,true,false,af aU []⟩)]:=by
 have sQ:(af aU l).length=l.length*4:=aE (e:=4) (fun _=>rfl) ..
 have VJ:(af aU [v]).length=4:=rfl
 refine mV Tryz.func53 95<|bf.rG [.sm 5 77] bD<|bf.oe (bR.add 5 4 bD)<|zP 3 [{},yH [(2,{k:=l.length})],yH [(1,{k:=1})]] [.aa [7,6,0,1,2] [5,77]] [yR (↑l.length:Int),yO (l.length*4≤(af aU l).length),yR (1*4)]<|zS<|zq<|bj 16 ((↑(1:Nat):Int) == (0:Int)) bE<|a7<|zP 1 [yH [(1,{k:=l.length})]] [.aa [8,16,7,6,0,1,2] [5,77]] [yI sQ]<|zS<|zP 1 [{}] [.aa [22,8,16,7,6,0,1,2] [5,77]] []<|dr 22 ((↑l.length:Int) == (↑l.length:Int)) fi<|zQ 1 [{}] [yO (((af aU l).length+4)*72≤562949953421312)]<|dt (zG [] [yB (af aU l++af aU [v]=af aU (l++ [v])) (fB _ _),yB ([]=af aU []) rfl])
section
variable {P:Program}
theorem qB {ops:Array Oper} {o:Oper} {a:Act} {w:World} {K:Act->World->Prop} {Q:Exit->Act->World->Prop} {E:Prop} (hg:o.guard=none) (d x:Operand) (dT sT:TypeId) (vf:o.op=Op.call {callee:=Callee.builtin Builtin.append,args:= #[d,x],argTypes:= #[dT,sT]})
  (v u:Value) (hd:a.eval d=v) (hx:a.eval x=u) {v':Value} {w':World} (hr:(Builtin.append_ #[dT,sT] o.type #[v,u]).run P w= .ok v' w') (hK:K (a.put o.dst v') w'):if Region.wanted o (yielded ops a.tmps)=true then Oper.wp P o a w K Q else E:=by
 have hw:Region.wanted o (yielded ops a.tmps)=true:=by simp [Region.wanted,hg]
 rw [if_pos hw]
 unfold Oper.wp
 simp [execOp,vf,resolve,invoke,builtin,hd,hx,hr,Result.andThen]
 exact hK
theorem vn (w:World) (t ty e:TypeId) (i:TypeInfo) (ht:P.underlying t=some (.slice e)) (hi:P.info? e=some i) (g BK Mf:Nat) (cur:Array Value) (te:TypeId) (fr:Nat×Nat) (hg:w.heap[g]?=some (.cells cur te fr)) (gH:∀j,j<cur.size-> ¬(fr.1≤j∧j<fr.2))
  (a:Addr) (m c:Nat) (news:List Value) (hl:news.length=m*i.size) (wz:∀j u,news[j]?=some u->w.cell? (a.add j)=some u) (h1:∀u∈news,u.oneCell'=true) (mH:BK+m≤Mf) (mv:BK*i.size+news.length≤cur.size) :
  (Builtin.append_ #[t,t] ty #[.slice (some ⟨g,0,none⟩) BK Mf,.slice (some a) m c]).run P w= .ok (.slice (some ⟨g,0,none⟩) (BK+m) Mf) (w.setRow g (cur.toList.take (BK*i.size)++news++cur.toList.drop (BK*i.size+news.length)).toArray):=by
 have hf:=run_firstCells_some (P:=P) w i.size m a m c news hl wz
 have dL:=cW P g te fr cur.size gH (BK*i.size) news 0 cur w hg (by simpa using mv) rfl h1
 simp only [Nat.add_zero] at dL
 simp [Builtin.append_,run_underlying ht,sizeOf,typeInfo,hi,Builtin.lenOf,mH,hf,Addr.add_lit,dL]
theorem xa (w:World) (t e ty:TypeId) (z:Value) (ht:P.underlying t=some (.slice e)) (hv:∀w,(zeroValue e).run P w= .ok z w) (g o n c:Nat) (hn:0<n) (cur:Array Value) (te:TypeId) (fr:Nat×Nat) (hg:w.heap[g]?=some (.cells cur te fr)) (gH:∀j,j<cur.size-> ¬(fr.1≤j∧j<fr.2))
  (zs:List Value) (hz:(Builtin.zeroCells z.cells n).toList=zs) (h1:∀u∈zs,u.oneCell'=true) (mv:o+zs.length≤cur.size) :
  (Builtin.clear_ #[t] ty #[.slice (some ⟨g,o,none⟩) n c]).run P w= .ok (.tuple #[]) (w.setRow g (cur.toList.take o++zs++cur.toList.drop (o+zs.length)).toArray):=by
 have dL:=cW P g te fr cur.size gH o zs 0 cur w hg (by simpa using mv) rfl h1
 simp only [Nat.add_zero] at dL
 obtain ⟨m,rfl⟩:∃m,n=m+1:=⟨n-1,aj⟩
 simp [Builtin.clear_,run_underlying ht,hv,hz,dL]
end
def JK:Value:=.agg #[.string ⟨#[]⟩,.int .i64 0,.int .u64 0,.int .u64 0]
def I6 (cur:List Value) (n i:Nat):List Value:=cur.take (i*4)++(cur.take (n*4)).drop ((i+1)*4)
set_option maxHeartbeats 4000000 in
set_option maxRecDepth 1000000 in
theorem C6 (w:World) (g n m c i j:Nat) (hj:j=i+1) (hm:n=m+1) (cur:Array Value) (te:TypeId) (fr:Nat×Nat) (hg:w.heap[g]?=some (.cells cur te fr)) (gH:∀t,t<cur.size-> ¬(fr.1≤t∧t<fr.2)) (hs:cur.size=4*c) (hn:n≤c) (hi:i<n) (h1:∀(t:Nat) u,t<n*4->cur[t]?=some u->u.oneCell'=true) :
  Calls Tryz.prog 152 #[.slice (some ⟨g,0,none⟩) n c,.int .i64 i,.int .i64 j] w fun e w'=>e= .returned (.slice (some ⟨g,0,none⟩) m c)∧ ∃cur',w'=w.drew.setRow g cur'∧cur'.size=cur.size∧ ∀t,t<m*4->cur'[t]?=(I6 cur.toList n i)[t]?:=by
 have mixed:Tryz.prog.follows .mixedOrders=true:=by kernel_rfl
 obtain ⟨i0,NY,kT,Q5⟩:∃i0:TypeInfo,Tryz.prog.info? 51=some i0∧i0.size=4∧i0.zero=some JK:=by
  have h:(Tryz.prog.info? 51).map (fun i=>(i.size,i.zero))=some (4,some JK):=by kernel_rfl
  cases hp:Tryz.prog.info? 51 with
  | none=>rw [hp] at h;cases h
  | some i=>rw [hp] at h;simp at h;exact ⟨i,rfl,h⟩
 have gC:cur.toList.length=4*c:=by simp [hs]
 obtain ⟨news,wz⟩:∃news,news=(cur.toList.take (n*4)).drop (j*4):=⟨_,rfl⟩
 have Ec:news.length=(n-j)*4:=by rw [wz,List.length_drop,List.length_take,gC];omega
 have MM:∀t,t<(n-j)*4->news[t]?=cur[j*4+t]?:=fun t ht=>by
  rw [wz,List.getElem?_drop,List.getElem?_take,if_pos aj,Array.getElem?_toList]
 obtain ⟨A,hA,gu⟩:∃A:Addr,(if c=j then some (⟨g,0,none⟩:Addr) else some ⟨g,j*4,none⟩)=some A∧(∀t u,news[t]?=some u->w.drew.cell? (A.add t)=some u):=by
  by_cases h:c=j
  ·refine ⟨⟨g,0,none⟩,by simp [h],fun t u hu=>?_⟩
   have h0:news.length=0:=by rw [Ec];omega
   rw [List.length_eq_zero_iff.1 h0] at hu
   simp at hu
  ·refine ⟨⟨g,j*4,none⟩,by simp [h],fun t u hu=>?_⟩
   have ht:t<(n-j)*4:=by
    have:=(List.getElem?_eq_some_iff.1 hu).1
    rwa [Ec] at this
   rw [MM t ht] at hu
   rw [Addr.add_lit]
   show w.cell? _=_
   simp only [World.cell?,hg]
   exact hu
 have uv:∀u∈news,u.oneCell'=true:=fun u hu=>by
  obtain ⟨t,ht⟩:=List.getElem?_of_mem hu
  have Au:t<(n-j)*4:=by
   have:=(List.getElem?_eq_some_iff.1 ht).1
   rwa [Ec] at this
  rw [MM t Au] at ht
  exact h1 _ _ aj ht
 obtain ⟨rr,Eh⟩:∃rr,rr=(cur.toList.take (i*4)++news++cur.toList.drop (i*4+news.length)).toArray:=⟨_,rfl⟩
 have LM:∀ty,(Builtin.append_ #[38,38] ty #[.slice (some ⟨g,0,none⟩) i c,.slice (some A) (n-j) (c-j)]).run Tryz.prog w.drew= .ok (.slice (some ⟨g,0,none⟩) m c) (w.drew.setRow g rr):=fun ty=>by
  have h:=vn (P:=Tryz.prog) w.drew 38 ty 51 i0 Tryz.underlying38 NY g i c cur te fr hg gH A (n-j) (c-j) news (by rw [Ec,kT]) gu uv aj (by rw [kT,Ec,hs];omega)
  rw [kT,show i+(n-j)=m by omega] at h
  rw [Eh];exact h
 have gS:rr.size=cur.size:=by
  rw [Eh];simp only [List.size_toArray,List.length_append,List.length_take,List.length_drop,Ec,gC,hs];omega
 have N7:(w.drew.setRow g rr).heap[g]?=some (.cells rr te fr):=setRow_heap w.drew g cur rr te fr hg
 obtain ⟨zs,uo⟩:∃zs:List Value,zs= [.string ⟨#[]⟩,.int .i64 0,.int .u64 0,.int .u64 0]:=⟨_,rfl⟩
 have Qf:(Builtin.zeroCells JK.cells 1).toList=zs:=by rw [uo];kernel_rfl
 have F6:zs.length=4:=by rw [uo];rfl
 have SR:∀u∈zs,u.oneCell'=true:=by rw [uo];simp [Value.oneCell']
 obtain ⟨Da,Eg⟩:∃Da,Da=(rr.toList.take (m*4)++zs++rr.toList.drop (m*4+zs.length)).toArray:=⟨_,rfl⟩
 have UN:∀ty,(Builtin.clear_ #[38] ty #[.slice (some ⟨g,m*4,none⟩) (n-m) (c-m)]).run Tryz.prog (w.drew.setRow g rr)= .ok (.tuple #[]) ((w.drew.setRow g rr).setRow g Da):=fun ty=>by
  rw [show n-m=1 by omega,Eg]
  exact xa (P:=Tryz.prog) _ _ _ ty JK Tryz.underlying38 (fun w=>iM (by rw [NY];exact Q5)) g _ 1 _ aj rr te fr N7 (fun t ht=>gH t aj) zs Qf SR (by rw [F6,gS,hs];omega)
 have fin:∃cur',(w.drew.setRow g rr).setRow g Da=w.drew.setRow g cur'∧cur'.size=cur.size∧ ∀t,t<m*4->cur'[t]?=(I6 cur.toList n i)[t]?:=by
  refine ⟨Da,?_,?_,fun t ht=>?_⟩
  ·unfold World.setRow
   congr 1
   apply Array.ext_getElem?
   intro b
   simp only [Array.getElem?_modify]
   by_cases hb:g=b
   ·subst hb
    simp only [if_pos]
    rw [show w.drew.heap[g]?=some (.cells cur te fr) from hg];rfl
   ·simp only [if_neg hb]
  ·rw [Eg];simp only [List.size_toArray,List.length_append,List.length_take,List.length_drop,F6,Array.length_toList,gS,hs];omega
  ·rw [Eg,List.getElem?_toArray,List.append_assoc,List.getElem?_append_left (by rw [List.length_take,Array.length_toList,gS,hs];omega),List.getElem?_take,if_pos ht,Eh]
   rw [List.getElem?_append_left (by simp only [List.length_append,List.length_take,Ec,gC];omega),wz];unfold I6;rw [←hj]
 have b1:i≤c:=aj
 have b2:j≤c:=aj
 have b3:¬((i:Int)=(j:Int)):=aj
 have b4:j≤n:=aj
 have b5:i≤n:=aj
 have b6:i≤j:=aj
 have e1:i+(n-j)=m:=aj
 have b8:m≤n:=aj
 have b9:m≤c:=aj
 have V_:¬(c=m):=aj
 clear hj hm
 clear Eh Eg wz MM gu uv gS N7 uo Qf F6 SR Ec gC h1
 go_enter Tryz.func152,Tryz.ntmps152
 go_wp2_with fail
 go_region_law_o (refine qB rfl (.tmp 22) (.tmp 25) 38 38 rfl (.slice (some ⟨g,0,none⟩) i c) (.slice (some A) (n-j) (c-j)) (by simp [Act.eval,Act.put]) (by simp [Act.eval,Act.put]) (LM _) ?_)
 go_wp2
 go_ret
 exact ⟨rfl,fin⟩
theorem I5 (l:List Mem) (i:Nat) (hi:i<l.length) (cur:List Value) (t:Nat) (u:Value) (x:AV) (hu:(I6 cur l.length i)[t]?=some u) (hx:(af aI (pb l i))[t]?=some x) (hl:l.length*4≤cur.length):∃k:Nat,cur[k]?=some u∧(af aI l)[k]?=some x:=by
 have MP:(af aI l).length=l.length*4:=aE (e:=4) (fun _=>rfl) ..
 have e:af aI (pb l i)=(af aI l).take (i*4)++(af aI l).drop ((i+1)*4):=by
  rw [nX (e:=4) (fun _=>rfl),nY (e:=4) (fun _=>rfl),fB];rfl
 rw [e] at hx
 unfold I6 at hu
 by_cases c:t<i*4
 ·rw [List.getElem?_append_left (by rw [List.length_take];omega),List.getElem?_take,if_pos c] at hu hx
  exact ⟨t,hu,hx⟩
 ·rw [List.getElem?_append_right (by rw [List.length_take];omega),List.length_take,Nat.min_eq_left aj,List.getElem?_drop] at hu hx
  rw [List.getElem?_take] at hu
  split at hu
  ·exact ⟨_,hu,hx⟩
  ·cases hu
theorem Bd (l:List Mem) (i:Nat) (hi:i<l.length):gk Tryz.prog 152 [.ref 5,ai i,ai (i+1:Nat)] [(5,⟨4,true,false,af aI l⟩)] (.own 4 (af aI (pb l i))) [(5,⟨4,true,false,af aI []⟩)]:=by
 have MP:(af aI l).length=l.length*4:=aE (e:=4) (fun _=>rfl) ..
 have qt:(af aI (pb l i)).length=(l.length-1)*4:=by
  rw [aE (e:=4) (fun _=>rfl)]
  unfold pb
  simp only [List.length_append,List.length_take,List.length_drop];omega
 have oG:cH (af aI l):=dG (fun x=>dP rfl) _
 intro w S φ vs jU VZ hL hlen dM
 obtain ⟨a,b,c,rfl⟩:=P3 hlen rfl
 have d0:=dM 0 a _ rfl rfl
 have hr:=hL.rows 5 _ rfl
 have eb:b= .int .i64 i:=bJ (dM 1 b _ rfl rfl)
 have ec:c= .int .i64 (i+1:Nat):=bJ (dM 2 c _ rfl rfl)
 subst eb ec
 cases d0 with
 | rep h=>cases h
 | cC _ e' hI =>
  have hI:some (_,(af aI l).length,_)=some (e',0,none):=hI
  injection hI with hI;injection hI with _ hI;injection hI with hI _
  omega
 | ref _ e m g n k hI hm hk hx hs =>
  have hI:some (4,(af aI l).length,φ 5)=some (e,m,some g):=hI
  injection hI with hI;injection hI with e1 hI;injection hI with e2 cp
  subst e1 e2
  rw [cp] at hr
  obtain ⟨cur,te,fr,hg,gH,hle,-,hc⟩:=hr
  have wE:cur.size=4*k:=by unfold aV at hs;rw [hg] at hs;exact hs
  have Ec:n=l.length:=aj
  subst Ec
  have b7:∀(j:Nat) u x,cur[j]?=some u->(af aI l)[j]?=some x->cA S w u x:=hc
  refine (C6 w g l.length (l.length-1) k i (i+1) rfl aj cur te fr hg gH wE hk hi fun t u ht hu=>?_).mono ?_
  ·have T0:(af aI l)[t]?=some (af aI l)[t]:=List.getElem?_eq_getElem aj
   exact DK (b7 t u _ hu T0) (oG _ (List.getElem_mem _))
  rintro e w' ⟨rfl,cur',rfl,bZ,RT⟩
  have dq:(w.drew.setRow g cur').heap.size=w.heap.size:=by simp [World.setRow]
  have MK:g<w.heap.size:=hL.lt 5 g cp
  have SL:∀id,id≠5->φ id=none:=fun id h=>hL.only id (by
   rw [aD,if_neg fun e=>h e.symm];rfl)
  refine ⟨_,[g],fun _=>none,rfl,rfl,rfl,rfl,by rw [dq];exact Nat.le_refl _,fun b hb UR=>?_,by simp,fun b hb=>?_,fun id b h=>(by cases h),fun id b _ h=>(by cases h),⟨fun b hb=>?_,fun _ _=>rfl,fun id oZ b h=>(by cases h),fun id b h=>(by cases h),fun id r hr=>?_⟩,?_⟩
  ·exact setRow_other w.drew g b _ fun e=>UR ⟨5,by rw [e];exact cp⟩
  ·obtain rfl:=List.mem_singleton.1 hb
   exact ⟨.inr ⟨5,cp⟩,by rw [dq];exact MK,fun ⟨id,h⟩=>by cases h⟩
  ·refine ⟨?_,hb.2.2⟩
   rcases hb.1 with h|h
   ·rw [dq];exact (hL.sep b h).1
   ·exact h.2
  ·rw [aD] at hr
   split at hr
   ·cases hr;rfl
   ·cases hr
  ·refine .inl (.inl (.own g (l.length-1) k 4 _ cur' te fr (setRow_heap w.drew g cur cur' te fr hg) (fun t ht=>gH t aj) (by rw [qt];omega) aj hx (by rw [bZ,wE]) fun t u x hu hx=>?_))
   have ht:t<(l.length-1)*4:=by have:=(List.getElem?_eq_some_iff.1 hx).1;omega
   rw [RT t ht] at hu
   obtain ⟨q,h1,h2⟩:=I5 l i hi cur.toList t u x hu hx (by simp;omega)
   refine (b7 q u x (by simpa using h1) h2).mono fun b hb=>?_
   have cT:b≠g:=fun e=>(hL.sep b hb).2 ⟨5,by rw [e];exact cp⟩
   exact ⟨⟨.inl hb,fun q=>cT (List.mem_singleton.1 q),fun ⟨id,h⟩=>(by cases h)⟩,setRow_other w.drew g b _ cT⟩
end Go.Proofs.YtjgbhhnghedgdaaGreatDoor
