import Derived.Test.YtjgbhhnghedgdaaGreatDoorZbRY
import Derived.Test.YtjgbhhnghedgdaaGreatDoorZbTk3
import Derived.Shelf.RegionOpenPlain
import Derived.WalkKit
import Derived.Lib.SliceRun
set_option linter.all false
namespace Go.Proofs.YtjgbhhnghedgdaaGreatDoor
open Go.RowKit
set_option maxRecDepth 100000
set_option maxHeartbeats 4000000
theorem BB (l:List UInt64) (hl:l.length≤1000000):bL Tryz.prog 52 [.sl 1 (ah l)] (.own 1 (ah l)):=by
 have uG:(ah l).length=l.length:=aC l
 refine zO Tryz.func52 8<|zq<|zS<|zS<|bf.isNil (t:=27) (el:=22) (x:=.tmp 0) (d1:=3) (d2:=4) (e:=1) (row:=ah l) bk bk bk bk bk bk bk Tryz.underlying27 bk bk bk fun b hb=>aq ?_
 cases b with
 | true =>
  have e:=hb rfl
  refine zT 4<|zq<|dn (zV [yI e])
 | false =>
  refine zF 4<|a_<|zP 1 [yH [(2,{b:=false})]] [.aa [2,4,0] [7]] [yB (cI (ah l)) (pS _),yO ((0+(ah l).length)*8≤140737488355328)]<|zR (bR)
theorem um (l:List Mem) (hl:l.length≤1000000):bL Tryz.prog 60 [.sl 4 (ae aF l)] (.own 4 (ae aF l)):=by
 have uG:(ae aF l).length=l.length*4:=aG (e:=4) (fun _=>rfl) ..
 refine zO Tryz.func60 8<|zq<|zS<|zS<|bf.isNil (t:=38) (el:=51) (x:=.tmp 0) (d1:=3) (d2:=4) (e:=4) (row:=ae aF l) bk bk bk bk bk bk bk Tryz.underlying38 bk bk bk fun b hb=>aq ?_
 cases b with
 | true =>
  have e:=hb rfl
  refine zT 4<|zq<|dn (zV [yI e])
 | false =>
  refine zF 4<|a_<|zP 1 [yH [(2,{b:=false})]] [.aa [2,4,0] [7]] [yB (cI (ae aF l)) (dG (fun x=>dN rfl) _),yO ((0+(ae aF l).length)*40≤562949953421312)]<|zR (bR)
theorem sj (d:na) (h1:d.box.length≤1000000) (h2:d.af.length≤1000000) (h3:d.au.length≤1000000):bL Tryz.prog 54 [.agg (bg d)] (.agg (P9 d)):=by
 have hc:=BM d.af h2
 refine zO Tryz.func54 16<|zP 5 [{},yH [(2,yV (AV.own 1 (ag d.box)))],yH [(2,{av:=some (AV.own 1 (ae (fun s↦ [cF s]) d.af)),b:=false})],yH [(2,yV (AV.own 1 (ah d.au)))],{}] [.aa [2,1,0] [2,1,13,9,5]] [yI (Gb d.box aj),yI (aR d.box),yL 3 7,yI hc,yL 4 7,yI (BB d.au h3),yB (ll (ah d.au)) (gn _),yL 5 7,yL 7 7]<|zR (bR)
theorem At (l:List gl) (v:gl) (hl:l.length≤1000):dh Tryz.prog 53 [.ref 5,ai l.length,.sl 4 (ae aP [v])] [(5,⟨4,true,false,ae aP l⟩)] (.own 4 (ae aP (l++ [v]))) [(5,⟨4,true,false,ae aP []⟩)]:=by
 have uG:(ae aP l).length=l.length*4:=aG (e:=4) (fun _=>rfl) ..
 have VO:(ae aP [v]).length=4:=rfl
 refine m6 Tryz.func53 95<|bf.sU [.vp 5 77] bk<|bf.oQ (bS.add 5 4 bk)<|zP 3 [{},yH [(2,{k:=l.length})],yH [(1,{k:=1})]] [.aa [7,6,0,1,2] [5,77]] [yR (↑l.length:Int),yO (l.length*4≤(ae aP l).length),yR (1*4)]<|zS<|zq<|bn 16 ((↑(1:Nat):Int) == (0:Int)) bE<|a_<|zP 1 [yH [(1,{k:=l.length})]] [.aa [8,16,7,6,0,1,2] [5,77]] [yI uG]<|zS<|zP 1 [{}] [.aa [22,8,16,7,6,0,1,2] [5,77]] []<|dB 22 ((↑l.length:Int) == (↑l.length:Int)) fg<|zQ 1 [{}] [yO (((ae aP l).length+4)*72≤562949953421312)]<|dn (zG [] [yB (ae aP l++ae aP [v]=ae aP (l++ [v])) (fE _ _),yB ([]=ae aP []) rfl])
section
variable {P:Program}
theorem qJ {ops:Array Oper} {o:Oper} {a:Act} {w:World} {K:Act->World->Prop} {Q:Exit->Act->World->Prop} {E:Prop} (hg:o.guard=none) (d x:Operand) (dT sT:TypeId) (vq:o.op=Op.call {callee:=Callee.builtin Builtin.append,args:= #[d,x],argTypes:= #[dT,sT]})
  (v u:Value) (hd:a.eval d=v) (hx:a.eval x=u) {v':Value} {w':World} (hr:(Builtin.append_ #[dT,sT] o.type #[v,u]).run P w= .ok v' w') (hK:K (a.put o.dst v') w'):if Region.wanted o (yielded ops a.tmps)=true then Oper.wp P o a w K Q else E:=by
 have hw:Region.wanted o (yielded ops a.tmps)=true:=by simp [Region.wanted,hg]
 rw [if_pos hw]
 unfold Oper.wp
 simp [execOp,vq,resolve,invoke,builtin,hd,hx,hr,Result.andThen]
 exact hK
theorem vx (w:World) (t ty e:TypeId) (i:TypeInfo) (ht:P.underlying t=some (.slice e)) (hi:P.info? e=some i) (g BO Mt:Nat) (cur:Array Value) (te:TypeId) (fr:Nat×Nat) (hg:w.heap[g]?=some (.cells cur te fr)) (gy:∀j,j<cur.size-> ¬(fr.1≤j∧j<fr.2))
  (a:Addr) (m c:Nat) (news:List Value) (hl:news.length=m*i.size) (wJ:∀j u,news[j]?=some u->w.cell? (a.add j)=some u) (h1:∀u∈news,u.oneCell'=true) (mS:BO+m≤Mt) (mG:BO*i.size+news.length≤cur.size) :
  (Builtin.append_ #[t,t] ty #[.slice (some ⟨g,0,none⟩) BO Mt,.slice (some a) m c]).run P w= .ok (.slice (some ⟨g,0,none⟩) (BO+m) Mt) (w.setRow g (cur.toList.take (BO*i.size)++news++cur.toList.drop (BO*i.size+news.length)).toArray):=by
 have hf:=run_firstCells_some (P:=P) w i.size m a m c news hl wJ
 have dS:=c_ P g te fr cur.size gy (BO*i.size) news 0 cur w hg (by simpa using mG) rfl h1
 simp only [Nat.add_zero] at dS
 simp [Builtin.append_,run_underlying ht,sizeOf,typeInfo,hi,Builtin.lenOf,mS,hf,Addr.add_lit,dS]
theorem xg (w:World) (t e ty:TypeId) (z:Value) (ht:P.underlying t=some (.slice e)) (hv:∀w,(zeroValue e).run P w= .ok z w) (g o n c:Nat) (hn:0<n) (cur:Array Value) (te:TypeId) (fr:Nat×Nat) (hg:w.heap[g]?=some (.cells cur te fr)) (gy:∀j,j<cur.size-> ¬(fr.1≤j∧j<fr.2))
  (zs:List Value) (hz:(Builtin.zeroCells z.cells n).toList=zs) (h1:∀u∈zs,u.oneCell'=true) (mG:o+zs.length≤cur.size) :
  (Builtin.clear_ #[t] ty #[.slice (some ⟨g,o,none⟩) n c]).run P w= .ok (.tuple #[]) (w.setRow g (cur.toList.take o++zs++cur.toList.drop (o+zs.length)).toArray):=by
 have dS:=c_ P g te fr cur.size gy o zs 0 cur w hg (by simpa using mG) rfl h1
 simp only [Nat.add_zero] at dS
 obtain ⟨m,rfl⟩:∃m,n=m+1:=⟨n-1,aj⟩
 simp [Builtin.clear_,run_underlying ht,hv,hz,dS]
end
def JW:Value:=.agg #[.string ⟨#[]⟩,.int .i64 0,.int .u64 0,.int .u64 0]
def Jj (cur:List Value) (n i:Nat):List Value:=cur.take (i*4)++(cur.take (n*4)).drop ((i+1)*4)
set_option maxHeartbeats 4000000 in
set_option maxRecDepth 1000000 in
theorem Dh (w:World) (g n m c i j:Nat) (hj:j=i+1) (hm:n=m+1) (cur:Array Value) (te:TypeId) (fr:Nat×Nat) (hg:w.heap[g]?=some (.cells cur te fr)) (gy:∀t,t<cur.size-> ¬(fr.1≤t∧t<fr.2)) (hs:cur.size=4*c) (hn:n≤c) (hi:i<n) (h1:∀(t:Nat) u,t<n*4->cur[t]?=some u->u.oneCell'=true) :
  Calls Tryz.prog 152 #[.slice (some ⟨g,0,none⟩) n c,.int .i64 i,.int .i64 j] w fun e w'=>e= .returned (.slice (some ⟨g,0,none⟩) m c)∧ ∃cur',w'=w.drew.setRow g cur'∧cur'.size=cur.size∧ ∀t,t<m*4->cur'[t]?=(Jj cur.toList n i)[t]?:=by
 have mixed:Tryz.prog.follows .mixedOrders=true:=by kernel_rfl
 obtain ⟨i0,Oh,lJ,Rf⟩:∃i0:TypeInfo,Tryz.prog.info? 51=some i0∧i0.size=4∧i0.zero=some JW:=by
  have h:(Tryz.prog.info? 51).map (fun i=>(i.size,i.zero))=some (4,some JW):=by kernel_rfl
  cases hp:Tryz.prog.info? 51 with
  | none=>rw [hp] at h;cases h
  | some i=>rw [hp] at h;simp at h;exact ⟨i,rfl,h⟩
 have gm:cur.toList.length=4*c:=by simp [hs]
 obtain ⟨news,wJ⟩:∃news,news=(cur.toList.take (n*4)).drop (j*4):=⟨_,rfl⟩
 have Ep:news.length=(n-j)*4:=by rw [wJ,List.length_drop,List.length_take,gm];omega
 have M0:∀t,t<(n-j)*4->news[t]?=cur[j*4+t]?:=fun t ht=>by
  rw [wJ,List.getElem?_drop,List.getElem?_take,if_pos aj,Array.getElem?_toList]
 obtain ⟨A,hA,gv⟩:∃A:Addr,(if c=j then some (⟨g,0,none⟩:Addr) else some ⟨g,j*4,none⟩)=some A∧(∀t u,news[t]?=some u->w.drew.cell? (A.add t)=some u):=by
  by_cases h:c=j
  ·refine ⟨⟨g,0,none⟩,by simp [h],fun t u hu=>?_⟩
   have h0:news.length=0:=by rw [Ep];omega
   rw [List.length_eq_zero_iff.1 h0] at hu
   simp at hu
  ·refine ⟨⟨g,j*4,none⟩,by simp [h],fun t u hu=>?_⟩
   have ht:t<(n-j)*4:=by
    have:=(List.getElem?_eq_some_iff.1 hu).1
    rwa [Ep] at this
   rw [M0 t ht] at hu
   rw [Addr.add_lit]
   show w.cell? _=_
   simp only [World.cell?,hg]
   exact hu
 have uD:∀u∈news,u.oneCell'=true:=fun u hu=>by
  obtain ⟨t,ht⟩:=List.getElem?_of_mem hu
  have Ax:t<(n-j)*4:=by
   have:=(List.getElem?_eq_some_iff.1 ht).1
   rwa [Ep] at this
  rw [M0 t Ax] at ht
  exact h1 _ _ aj ht
 obtain ⟨rD,Ev⟩:∃rD,rD=(cur.toList.take (i*4)++news++cur.toList.drop (i*4+news.length)).toArray:=⟨_,rfl⟩
 have L0:∀ty,(Builtin.append_ #[38,38] ty #[.slice (some ⟨g,0,none⟩) i c,.slice (some A) (n-j) (c-j)]).run Tryz.prog w.drew= .ok (.slice (some ⟨g,0,none⟩) m c) (w.drew.setRow g rD):=fun ty=>by
  have h:=vx (P:=Tryz.prog) w.drew 38 ty 51 i0 Tryz.underlying38 Oh g i c cur te fr hg gy A (n-j) (c-j) news (by rw [Ep,lJ]) gv uD aj (by rw [lJ,Ep,hs];omega)
  rw [lJ,show i+(n-j)=m by omega] at h
  rw [Ev];exact h
 have gV:rD.size=cur.size:=by
  rw [Ev];simp only [List.size_toArray,List.length_append,List.length_take,List.length_drop,Ep,gm,hs];omega
 have FD:(w.drew.setRow g rD).heap[g]?=some (.cells rD te fr):=setRow_heap w.drew g cur rD te fr hg
 obtain ⟨zs,uA⟩:∃zs:List Value,zs= [.string ⟨#[]⟩,.int .i64 0,.int .u64 0,.int .u64 0]:=⟨_,rfl⟩
 have Qt:(Builtin.zeroCells JW.cells 1).toList=zs:=by rw [uA];kernel_rfl
 have Gq:zs.length=4:=by rw [uA];rfl
 have S4:∀u∈zs,u.oneCell'=true:=by rw [uA];simp [Value.oneCell']
 obtain ⟨Dn,Eu⟩:∃Dn,Dn=(rD.toList.take (m*4)++zs++rD.toList.drop (m*4+zs.length)).toArray:=⟨_,rfl⟩
 have UW:∀ty,(Builtin.clear_ #[38] ty #[.slice (some ⟨g,m*4,none⟩) (n-m) (c-m)]).run Tryz.prog (w.drew.setRow g rD)= .ok (.tuple #[]) ((w.drew.setRow g rD).setRow g Dn):=fun ty=>by
  rw [show n-m=1 by omega,Eu]
  exact xg (P:=Tryz.prog) _ _ _ ty JW Tryz.underlying38 (fun w=>iO (by rw [Oh];exact Rf)) g _ 1 _ aj rD te fr FD (fun t ht=>gy t aj) zs Qt S4 (by rw [Gq,gV,hs];omega)
 have fin:∃cur',(w.drew.setRow g rD).setRow g Dn=w.drew.setRow g cur'∧cur'.size=cur.size∧ ∀t,t<m*4->cur'[t]?=(Jj cur.toList n i)[t]?:=by
  refine ⟨Dn,?_,?_,fun t ht=>?_⟩
  ·unfold World.setRow
   congr 1
   apply Array.ext_getElem?
   intro b
   simp only [Array.getElem?_modify]
   by_cases hb:g=b
   ·subst hb
    simp only [if_pos]
    rw [show w.drew.heap[g]?=some (.cells cur te fr) from hg];rfl
   ·simp only [if_neg hb]
  ·rw [Eu];simp only [List.size_toArray,List.length_append,List.length_take,List.length_drop,Gq,Array.length_toList,gV,hs];omega
  ·rw [Eu,List.getElem?_toArray,List.append_assoc,List.getElem?_append_left (by rw [List.length_take,Array.length_toList,gV,hs];omega),List.getElem?_take,if_pos ht,Ev]
   rw [List.getElem?_append_left (by simp only [List.length_append,List.length_take,Ep,gm];omega),wJ];unfold Jj;rw [←hj]
 have b1:i≤c:=aj
 have b2:j≤c:=aj
 have b3:¬((i:Int)=(j:Int)):=aj
 have b4:j≤n:=aj
 have b5:i≤n:=aj
 have b6:i≤j:=aj
 have e1:i+(n-j)=m:=aj
 have b8:m≤n:=aj
 have b9:m≤c:=aj
 have Wg:¬(c=m):=aj
 clear hj hm
 clear Ev Eu wJ M0 gv uD gV FD uA Qt Gq S4 Ep gm h1
 go_enter Tryz.func152,Tryz.ntmps152
 go_wp2_with fail
 go_region_law_o (refine qJ rfl (.tmp 22) (.tmp 25) 38 38 rfl (.slice (some ⟨g,0,none⟩) i c) (.slice (some A) (n-j) (c-j)) (by simp [Act.eval,Act.put]) (by simp [Act.eval,Act.put]) (L0 _) ?_)
 go_wp2
 go_ret
 exact ⟨rfl,fin⟩
theorem Ji (l:List Mem) (i:Nat) (hi:i<l.length) (cur:List Value) (t:Nat) (u:Value) (x:AV) (hu:(Jj cur l.length i)[t]?=some u) (hx:(ae aF (pn l i))[t]?=some x) (hl:l.length*4≤cur.length):∃k:Nat,cur[k]?=some u∧(ae aF l)[k]?=some x:=by
 have M4:(ae aF l).length=l.length*4:=aG (e:=4) (fun _=>rfl) ..
 have e:ae aF (pn l i)=(ae aF l).take (i*4)++(ae aF l).drop ((i+1)*4):=by
  rw [oi (e:=4) (fun _=>rfl),om (e:=4) (fun _=>rfl),fE];rfl
 rw [e] at hx
 unfold Jj at hu
 by_cases c:t<i*4
 ·rw [List.getElem?_append_left (by rw [List.length_take];omega),List.getElem?_take,if_pos c] at hu hx
  exact ⟨t,hu,hx⟩
 ·rw [List.getElem?_append_right (by rw [List.length_take];omega),List.length_take,Nat.min_eq_left aj,List.getElem?_drop] at hu hx
  rw [List.getElem?_take] at hu
  split at hu
  ·exact ⟨_,hu,hx⟩
  ·cases hu
theorem Bf (l:List Mem) (i:Nat) (hi:i<l.length):dh Tryz.prog 152 [.ref 5,ai i,ai (i+1:Nat)] [(5,⟨4,true,false,ae aF l⟩)] (.own 4 (ae aF (pn l i))) [(5,⟨4,true,false,ae aF []⟩)]:=by
 have M4:(ae aF l).length=l.length*4:=aG (e:=4) (fun _=>rfl) ..
 have s9:(ae aF (pn l i)).length=(l.length-1)*4:=by
  rw [aG (e:=4) (fun _=>rfl)]
  unfold pn
  simp only [List.length_append,List.length_take,List.length_drop];omega
 have oO:cI (ae aF l):=dG (fun x=>dN rfl) _
 intro w S φ vs j0 V6 hL hlen dV
 obtain ⟨a,b,c,rfl⟩:=Qg hlen rfl
 have d0:=dV 0 a _ rfl rfl
 have hr:=hL.rows 5 _ rfl
 have eb:b= .int .i64 i:=bK (dV 1 b _ rfl rfl)
 have ec:c= .int .i64 (i+1:Nat):=bK (dV 2 c _ rfl rfl)
 subst eb ec
 cases d0 with
 | rep h=>cases h
 | cH _ e' hI =>
  have hI:some (_,(ae aF l).length,_)=some (e',0,none):=hI
  injection hI with hI;injection hI with _ hI;injection hI with hI _
  omega
 | ref _ e m g n k hI hm hk hx hs =>
  have hI:some (4,(ae aF l).length,φ 5)=some (e,m,some g):=hI
  injection hI with hI;injection hI with e1 hI;injection hI with e2 cm
  subst e1 e2
  rw [cm] at hr
  obtain ⟨cur,te,fr,hg,gy,hle,-,hc⟩:=hr
  have wL:cur.size=4*k:=by unfold aV at hs;rw [hg] at hs;exact hs
  have Ep:n=l.length:=aj
  subst Ep
  have b7:∀(j:Nat) u x,cur[j]?=some u->(ae aF l)[j]?=some x->cB S w u x:=hc
  refine (Dh w g l.length (l.length-1) k i (i+1) rfl aj cur te fr hg gy wL hk hi fun t u ht hu=>?_).mono ?_
  ·have T9:(ae aF l)[t]?=some (ae aF l)[t]:=List.getElem?_eq_getElem aj
   exact DW (b7 t u _ hu T9) (oO _ (List.getElem_mem _))
  rintro e w' ⟨rfl,cur',rfl,bY,R2⟩
  have dC:(w.drew.setRow g cur').heap.size=w.heap.size:=by simp [World.setRow]
  have MY:g<w.heap.size:=hL.lt 5 g cm
  have SV:∀id,id≠5->φ id=none:=fun id h=>hL.only id (by
   rw [aD,if_neg fun e=>h e.symm];rfl)
  refine ⟨_,[g],fun _=>none,rfl,rfl,rfl,rfl,by rw [dC];exact Nat.le_refl _,fun b hb U0=>?_,by simp,fun b hb=>?_,fun id b h=>(by cases h),fun id b _ h=>(by cases h),⟨fun b hb=>?_,fun _ _=>rfl,fun id pc b h=>(by cases h),fun id b h=>(by cases h),fun id r hr=>?_⟩,?_⟩
  ·exact setRow_other w.drew g b _ fun e=>U0 ⟨5,by rw [e];exact cm⟩
  ·obtain rfl:=List.mem_singleton.1 hb
   exact ⟨.inr ⟨5,cm⟩,by rw [dC];exact MY,fun ⟨id,h⟩=>by cases h⟩
  ·refine ⟨?_,hb.2.2⟩
   rcases hb.1 with h|h
   ·rw [dC];exact (hL.sep b h).1
   ·exact h.2
  ·rw [aD] at hr
   split at hr
   ·cases hr;rfl
   ·cases hr
  ·refine .inl (.inl (.own g (l.length-1) k 4 _ cur' te fr (setRow_heap w.drew g cur cur' te fr hg) (fun t ht=>gy t aj) (by rw [s9];omega) aj hx (by rw [bY,wL]) fun t u x hu hx=>?_))
   have ht:t<(l.length-1)*4:=by have:=(List.getElem?_eq_some_iff.1 hx).1;omega
   rw [R2 t ht] at hu
   obtain ⟨q,h1,h2⟩:=Ji l i hi cur.toList t u x hu hx (by simp;omega)
   refine (b7 q u x (by simpa using h1) h2).mono fun b hb=>?_
   have cX:b≠g:=fun e=>(hL.sep b hb).2 ⟨5,by rw [e];exact cm⟩
   exact ⟨⟨.inl hb,fun q=>cX (List.mem_singleton.1 q),fun ⟨id,h⟩=>(by cases h)⟩,setRow_other w.drew g b _ cX⟩
end Go.Proofs.YtjgbhhnghedgdaaGreatDoor
