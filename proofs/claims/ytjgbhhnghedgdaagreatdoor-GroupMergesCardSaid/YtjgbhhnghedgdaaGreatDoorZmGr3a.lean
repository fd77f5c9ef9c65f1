import Derived.Test.YtjgbhhnghedgdaaGreatDoorZmRY
import Derived.Test.YtjgbhhnghedgdaaGreatDoorZmTk3
import Derived.Shelf.RegionOpenPlain
import Derived.WalkKit
import Derived.Lib.SliceRun
set_option linter.all false
namespace Go.Proofs.YtjgbhhnghedgdaaGreatDoor
open Go.RowKit
set_option maxRecDepth 100000
set_option maxHeartbeats 4000000
theorem Cl (l:List UInt64) (hl:l.length≤1000000):bC Tryz.prog 52 [.sl 1 (aj l)] (.own 1 (aj l)):=by
 have oJ:(aj l).length=l.length:=aC l
 refine zO Tryz.func52 8<|zq<|zS<|zS<|bf.isNil (t:=27) (el:=22) (x:=.tmp 0) (d1:=3) (d2:=4) (e:=1) (row:=aj l) bt bt bt bt bt bt bt Tryz.underlying27 bt bt bt fun b hb=>ak ?_
 cases b with
 | true =>
  have e:=hb rfl
  refine zT 4<|zq<|dd (zV [yI e])
 | false =>
  refine zF 4<|aW<|zP 1 [yH [(2,{b:=false})]] [.aa [2,4,0] [7]] [yB (cE (aj l)) (qc _),yO ((0+(aj l).length)*8≤140737488355328)]<|zR (bL)
theorem uF (l:List Mem) (hl:l.length≤1000000):bC Tryz.prog 60 [.sl 4 (ae aG l)] (.own 4 (ae aG l)):=by
 have oJ:(ae aG l).length=l.length*4:=aE (e:=4) (fun _=>rfl) ..
 refine zO Tryz.func60 8<|zq<|zS<|zS<|bf.isNil (t:=38) (el:=51) (x:=.tmp 0) (d1:=3) (d2:=4) (e:=4) (row:=ae aG l) bt bt bt bt bt bt bt Tryz.underlying38 bt bt bt fun b hb=>ak ?_
 cases b with
 | true =>
  have e:=hb rfl
  refine zT 4<|zq<|dd (zV [yI e])
 | false =>
  refine zF 4<|aW<|zP 1 [yH [(2,{b:=false})]] [.aa [2,4,0] [7]] [yB (cE (ae aG l)) (dD (fun x=>dL rfl) _),yO ((0+(ae aG l).length)*40≤562949953421312)]<|zR (bL)
theorem sH (d:np) (h1:d.box.length≤1000000) (h2:d.af.length≤1000000) (h3:d.ay.length≤1000000):bC Tryz.prog 54 [.agg (a_ d)] (.agg (QE d)):=by
 have hc:=Cy d.af h2
 refine zO Tryz.func54 16<|zP 5 [{},yH [(2,yV (AV.own 1 (ag d.box)))],yH [(2,{av:=some (AV.own 1 (ae (fun s↦ [cQ s]) d.af)),b:=false})],yH [(2,yV (AV.own 1 (aj d.ay)))],{}] [.aa [2,1,0] [2,1,13,9,5]] [yI (GQ d.box ah),yI (aP d.box),yL 3 7,yI hc,yL 4 7,yI (Cl d.ay h3),yB (lr (aj d.ay)) (gv _),yL 5 7,yL 7 7]<|zR (bL)
theorem Bg (l:List gb) (v:gb) (hl:l.length≤1000):gm Tryz.prog 53 [.ref 5,ai l.length,.sl 4 (ae aU [v])] [(5,⟨4,true,false,ae aU l⟩)] (.own 4 (ae aU (l++ [v]))) [(5,⟨4,true,false,ae aU []⟩)]:=by
 have oJ:(ae aU l).length=l.length*4:=aE (e:=4) (fun _=>rfl) ..
 have Wv:(ae aU [v]).length=4:=rfl
 refine nj Tryz.func53 95<|bf.r9 [.vK 5 77] bt<|bf.o7 (bU.add 5 4 bt)<|zP 3 [{},yH [(2,{k:=l.length})],yH [(1,{k:=1})]] [.aa [7,6,0,1,2] [5,77]] [yR (↑l.length:Int),yO (l.length*4≤(ae aU l).length),yR (1*4)]<|zS<|zq<|bj 16 ((↑(1:Nat):Int) == (0:Int)) bD<|aW<|zP 1 [yH [(1,{k:=l.length})]] [.aa [8,16,7,6,0,1,2] [5,77]] [yI oJ]<|zS<|zP 1 [{}] [.aa [22,8,16,7,6,0,1,2] [5,77]] []<|dm 22 ((↑l.length:Int) == (↑l.length:Int)) eg<|zQ 1 [{}] [yO (((ae aU l).length+4)*72≤562949953421312)]<|dd (zG [] [yB (ae aU l++ae aU [v]=ae aU (l++ [v])) (fG _ _),yB ([]=ae aU []) rfl])
section
variable {P:Program}
theorem qW {ops:Array Oper} {o:Oper} {a:Act} {w:World} {K:Act->World->Prop} {Q:Exit->Act->World->Prop} {E:Prop} (hg:o.guard=none) (d x:Operand) (dT sT:TypeId) (vL:o.op=Op.call {callee:=Callee.builtin Builtin.append,args:= #[d,x],argTypes:= #[dT,sT]})
  (v u:Value) (hd:a.eval d=v) (hx:a.eval x=u) {v':Value} {w':World} (hr:(Builtin.append_ #[dT,sT] o.type #[v,u]).run P w= .ok v' w') (hK:K (a.put o.dst v') w'):if Region.wanted o (yielded ops a.tmps)=true then Oper.wp P o a w K Q else E:=by
 have hw:Region.wanted o (yielded ops a.tmps)=true:=by simp [Region.wanted,hg]
 rw [if_pos hw]
 unfold Oper.wp
 simp [execOp,vL,resolve,invoke,builtin,hd,hx,hr,Result.andThen]
 exact hK
theorem vV (w:World) (t ty e:TypeId) (i:TypeInfo) (ht:P.underlying t=some (.slice e)) (hi:P.info? e=some i) (g CA M3:Nat) (cur:Array Value) (te:TypeId) (fr:Nat×Nat) (hg:w.heap[g]?=some (.cells cur te fr)) (gJ:∀j,j<cur.size-> ¬(fr.1≤j∧j<fr.2))
  (a:Addr) (m c:Nat) (news:List Value) (hl:news.length=m*i.size) (xe:∀j u,news[j]?=some u->w.cell? (a.add j)=some u) (h1:∀u∈news,u.oneCell'=true) (m6:CA+m≤M3) (mO:CA*i.size+news.length≤cur.size) :
  (Builtin.append_ #[t,t] ty #[.slice (some ⟨g,0,none⟩) CA M3,.slice (some a) m c]).run P w= .ok (.slice (some ⟨g,0,none⟩) (CA+m) M3) (w.setRow g (cur.toList.take (CA*i.size)++news++cur.toList.drop (CA*i.size+news.length)).toArray):=by
 have hf:=run_firstCells_some (P:=P) w i.size m a m c news hl xe
 have dC:=c_ P g te fr cur.size gJ (CA*i.size) news 0 cur w hg (by simpa using mO) rfl h1
 simp only [Nat.add_zero] at dC
 simp [Builtin.append_,run_underlying ht,sizeOf,typeInfo,hi,Builtin.lenOf,m6,hf,Addr.add_lit,dC]
theorem xO (w:World) (t e ty:TypeId) (z:Value) (ht:P.underlying t=some (.slice e)) (hv:∀w,(zeroValue e).run P w= .ok z w) (g o n c:Nat) (hn:0<n) (cur:Array Value) (te:TypeId) (fr:Nat×Nat) (hg:w.heap[g]?=some (.cells cur te fr)) (gJ:∀j,j<cur.size-> ¬(fr.1≤j∧j<fr.2))
  (zs:List Value) (hz:(Builtin.zeroCells z.cells n).toList=zs) (h1:∀u∈zs,u.oneCell'=true) (mO:o+zs.length≤cur.size) :
  (Builtin.clear_ #[t] ty #[.slice (some ⟨g,o,none⟩) n c]).run P w= .ok (.tuple #[]) (w.setRow g (cur.toList.take o++zs++cur.toList.drop (o+zs.length)).toArray):=by
 have dC:=c_ P g te fr cur.size gJ o zs 0 cur w hg (by simpa using mO) rfl h1
 simp only [Nat.add_zero] at dC
 obtain ⟨m,rfl⟩:∃m,n=m+1:=⟨n-1,ah⟩
 simp [Builtin.clear_,run_underlying ht,hv,hz,dC]
end
def Kz:Value:=.agg #[.string ⟨#[]⟩,.int .i64 0,.int .u64 0,.int .u64 0]
def JT (cur:List Value) (n i:Nat):List Value:=cur.take (i*4)++(cur.take (n*4)).drop ((i+1)*4)
set_option maxHeartbeats 4000000 in
set_option maxRecDepth 1000000 in
theorem DV (w:World) (g n m c i j:Nat) (hj:j=i+1) (hm:n=m+1) (cur:Array Value) (te:TypeId) (fr:Nat×Nat) (hg:w.heap[g]?=some (.cells cur te fr)) (gJ:∀t,t<cur.size-> ¬(fr.1≤t∧t<fr.2)) (hs:cur.size=4*c) (hn:n≤c) (hi:i<n) (h1:∀(t:Nat) u,t<n*4->cur[t]?=some u->u.oneCell'=true) :
  Calls Tryz.prog 152 #[.slice (some ⟨g,0,none⟩) n c,.int .i64 i,.int .i64 j] w fun e w'=>e= .returned (.slice (some ⟨g,0,none⟩) m c)∧ ∃cur',w'=w.drew.setRow g cur'∧cur'.size=cur.size∧ ∀t,t<m*4->cur'[t]?=(JT cur.toList n i)[t]?:=by
 have mixed:Tryz.prog.follows .mixedOrders=true:=by kernel_rfl
 obtain ⟨i0,OV,lP,RT⟩:∃i0:TypeInfo,Tryz.prog.info? 51=some i0∧i0.size=4∧i0.zero=some Kz:=by
  have h:(Tryz.prog.info? 51).map (fun i=>(i.size,i.zero))=some (4,some Kz):=by kernel_rfl
  cases hp:Tryz.prog.info? 51 with
  | none=>rw [hp] at h;cases h
  | some i=>rw [hp] at h;simp at h;exact ⟨i,rfl,h⟩
 have gF:cur.toList.length=4*c:=by simp [hs]
 obtain ⟨news,xe⟩:∃news,news=(cur.toList.take (n*4)).drop (j*4):=⟨_,rfl⟩
 have E1:news.length=(n-j)*4:=by rw [xe,List.length_drop,List.length_take,gF];omega
 have NB:∀t,t<(n-j)*4->news[t]?=cur[j*4+t]?:=fun t ht=>by
  rw [xe,List.getElem?_drop,List.getElem?_take,if_pos ah,Array.getElem?_toList]
 obtain ⟨A,hA,gB⟩:∃A:Addr,(if c=j then some (⟨g,0,none⟩:Addr) else some ⟨g,j*4,none⟩)=some A∧(∀t u,news[t]?=some u->w.drew.cell? (A.add t)=some u):=by
  by_cases h:c=j
  ·refine ⟨⟨g,0,none⟩,by simp [h],fun t u hu=>?_⟩
   have h0:news.length=0:=by rw [E1];omega
   rw [List.length_eq_zero_iff.1 h0] at hu
   simp at hu
  ·refine ⟨⟨g,j*4,none⟩,by simp [h],fun t u hu=>?_⟩
   have ht:t<(n-j)*4:=by
    have:=(List.getElem?_eq_some_iff.1 hu).1
    rwa [E1] at this
   rw [NB t ht] at hu
   rw [Addr.add_lit]
   show w.cell? _=_
   simp only [World.cell?,hg]
   exact hu
 have uS:∀u∈news,u.oneCell'=true:=fun u hu=>by
  obtain ⟨t,ht⟩:=List.getElem?_of_mem hu
  have Bl:t<(n-j)*4:=by
   have:=(List.getElem?_eq_some_iff.1 ht).1
   rwa [E1] at this
  rw [NB t Bl] at ht
  exact h1 _ _ ah ht
 obtain ⟨rT,E7⟩:∃rT,rT=(cur.toList.take (i*4)++news++cur.toList.drop (i*4+news.length)).toArray:=⟨_,rfl⟩
 have Ci:∀ty,(Builtin.append_ #[38,38] ty #[.slice (some ⟨g,0,none⟩) i c,.slice (some A) (n-j) (c-j)]).run Tryz.prog w.drew= .ok (.slice (some ⟨g,0,none⟩) m c) (w.drew.setRow g rT):=fun ty=>by
  have h:=vV (P:=Tryz.prog) w.drew 38 ty 51 i0 Tryz.underlying38 OV g i c cur te fr hg gJ A (n-j) (c-j) news (by rw [E1,lP]) gB uS ah (by rw [lP,E1,hs];omega)
  rw [lP,show i+(n-j)=m by omega] at h
  rw [E7];exact h
 have gV:rT.size=cur.size:=by
  rw [E7];simp only [List.size_toArray,List.length_append,List.length_take,List.length_drop,E1,gF,hs];omega
 have Gj:(w.drew.setRow g rT).heap[g]?=some (.cells rT te fr):=setRow_heap w.drew g cur rT te fr hg
 obtain ⟨zs,uP⟩:∃zs:List Value,zs= [.string ⟨#[]⟩,.int .i64 0,.int .u64 0,.int .u64 0]:=⟨_,rfl⟩
 have Q3:(Builtin.zeroCells Kz.cells 1).toList=zs:=by rw [uP];kernel_rfl
 have G7:zs.length=4:=by rw [uP];rfl
 have TI:∀u∈zs,u.oneCell'=true:=by rw [uP];simp [Value.oneCell']
 obtain ⟨D0,E6⟩:∃D0,D0=(rT.toList.take (m*4)++zs++rT.toList.drop (m*4+zs.length)).toArray:=⟨_,rfl⟩
 have Vz:∀ty,(Builtin.clear_ #[38] ty #[.slice (some ⟨g,m*4,none⟩) (n-m) (c-m)]).run Tryz.prog (w.drew.setRow g rT)= .ok (.tuple #[]) ((w.drew.setRow g rT).setRow g D0):=fun ty=>by
  rw [show n-m=1 by omega,E6]
  exact xO (P:=Tryz.prog) _ _ _ ty Kz Tryz.underlying38 (fun w=>iO (by rw [OV];exact RT)) g _ 1 _ ah rT te fr Gj (fun t ht=>gJ t ah) zs Q3 TI (by rw [G7,gV,hs];omega)
 have fin:∃cur',(w.drew.setRow g rT).setRow g D0=w.drew.setRow g cur'∧cur'.size=cur.size∧ ∀t,t<m*4->cur'[t]?=(JT cur.toList n i)[t]?:=by
  refine ⟨D0,?_,?_,fun t ht=>?_⟩
  ·unfold World.setRow
   congr 1
   apply Array.ext_getElem?
   intro b
   simp only [Array.getElem?_modify]
   by_cases hb:g=b
   ·subst hb
    simp only [if_pos]
    rw [show w.drew.heap[g]?=some (.cells cur te fr) from hg];rfl
   ·simp only [if_neg hb]
  ·rw [E6];simp only [List.size_toArray,List.length_append,List.length_take,List.length_drop,G7,Array.length_toList,gV,hs];omega
  ·rw [E6,List.getElem?_toArray,List.append_assoc,List.getElem?_append_left (by rw [List.length_take,Array.length_toList,gV,hs];omega),List.getElem?_take,if_pos ht,E7]
   rw [List.getElem?_append_left (by simp only [List.length_append,List.length_take,E1,gF];omega),xe];unfold JT;rw [←hj]
 have b1:i≤c:=ah
 have b2:j≤c:=ah
 have b3:¬((i:Int)=(j:Int)):=ah
 have b4:j≤n:=ah
 have b5:i≤n:=ah
 have b6:i≤j:=ah
 have e1:i+(n-j)=m:=ah
 have b8:m≤n:=ah
 have b9:m≤c:=ah
 have WZ:¬(c=m):=ah
 clear hj hm
 clear E7 E6 xe NB gB uS gV Gj uP Q3 G7 TI E1 gF h1
 go_enter Tryz.func152,Tryz.ntmps152
 go_wp2_with fail
 go_region_law_o (refine qW rfl (.tmp 22) (.tmp 25) 38 38 rfl (.slice (some ⟨g,0,none⟩) i c) (.slice (some A) (n-j) (c-j)) (by simp [Act.eval,Act.put]) (by simp [Act.eval,Act.put]) (Ci _) ?_)
 go_wp2
 go_ret
 exact ⟨rfl,fin⟩
theorem JS (l:List Mem) (i:Nat) (hi:i<l.length) (cur:List Value) (t:Nat) (u:Value) (x:AV) (hu:(JT cur l.length i)[t]?=some u) (hx:(ae aG (pG l i))[t]?=some x) (hl:l.length*4≤cur.length):∃k:Nat,cur[k]?=some u∧(ae aG l)[k]?=some x:=by
 have NF:(ae aG l).length=l.length*4:=aE (e:=4) (fun _=>rfl) ..
 have e:ae aG (pG l i)=(ae aG l).take (i*4)++(ae aG l).drop ((i+1)*4):=by
  rw [oy (e:=4) (fun _=>rfl),mc (e:=4) (fun _=>rfl),fG];rfl
 rw [e] at hx
 unfold JT at hu
 by_cases c:t<i*4
 ·rw [List.getElem?_append_left (by rw [List.length_take];omega),List.getElem?_take,if_pos c] at hu hx
  exact ⟨t,hu,hx⟩
 ·rw [List.getElem?_append_right (by rw [List.length_take];omega),List.length_take,Nat.min_eq_left ah,List.getElem?_drop] at hu hx
  rw [List.getElem?_take] at hu
  split at hu
  ·exact ⟨_,hu,hx⟩
  ·cases hu
theorem B1 (l:List Mem) (i:Nat) (hi:i<l.length):gm Tryz.prog 152 [.ref 5,ai i,ai (i+1:Nat)] [(5,⟨4,true,false,ae aG l⟩)] (.own 4 (ae aG (pG l i))) [(5,⟨4,true,false,ae aG []⟩)]:=by
 have NF:(ae aG l).length=l.length*4:=aE (e:=4) (fun _=>rfl) ..
 have qQ:(ae aG (pG l i)).length=(l.length-1)*4:=by
  rw [aE (e:=4) (fun _=>rfl)]
  unfold pG
  simp only [List.length_append,List.length_take,List.length_drop];omega
 have oY:cE (ae aG l):=dD (fun x=>dL rfl) _
 intro w S φ vs j7 WM hL hlen dV
 obtain ⟨a,b,c,rfl⟩:=QO hlen rfl
 have d0:=dV 0 a _ rfl rfl
 have hr:=hL.rows 5 _ rfl
 have eb:b= .int .i64 i:=bM (dV 1 b _ rfl rfl)
 have ec:c= .int .i64 (i+1:Nat):=bM (dV 2 c _ rfl rfl)
 subst eb ec
 cases d0 with
 | rep h=>cases h
 | cD _ e' hI =>
  have hI:some (_,(ae aG l).length,_)=some (e',0,none):=hI
  injection hI with hI;injection hI with _ hI;injection hI with hI _
  omega
 | ref _ e m g n k hI hm hk hx hs =>
  have hI:some (4,(ae aG l).length,φ 5)=some (e,m,some g):=hI
  injection hI with hI;injection hI with e1 hI;injection hI with e2 ct
  subst e1 e2
  rw [ct] at hr
  obtain ⟨cur,te,fr,hg,gJ,hle,-,hc⟩:=hr
  have xi:cur.size=4*k:=by unfold a7 at hs;rw [hg] at hs;exact hs
  have E1:n=l.length:=ah
  subst E1
  have b_:∀(j:Nat) u x,cur[j]?=some u->(ae aG l)[j]?=some x->cB S w u x:=hc
  refine (DV w g l.length (l.length-1) k i (i+1) rfl ah cur te fr hg gJ xi hk hi fun t u ht hu=>?_).mono ?_
  ·have UL:(ae aG l)[t]?=some (ae aG l)[t]:=List.getElem?_eq_getElem ah
   exact EB (b_ t u _ hu UL) (oY _ (List.getElem_mem _))
  rintro e w' ⟨rfl,cur',rfl,b7,SE⟩
  have dw:(w.drew.setRow g cur').heap.size=w.heap.size:=by simp [World.setRow]
  have Nz:g<w.heap.size:=hL.lt 5 g ct
  have TD:∀id,id≠5->φ id=none:=fun id h=>hL.only id (by
   rw [aF,if_neg fun e=>h e.symm];rfl)
  refine ⟨_,[g],fun _=>none,rfl,rfl,rfl,rfl,by rw [dw];exact Nat.le_refl _,fun b hb VC=>?_,by simp,fun b hb=>?_,fun id b h=>(by cases h),fun id b _ h=>(by cases h),⟨fun b hb=>?_,fun _ _=>rfl,fun id pw b h=>(by cases h),fun id b h=>(by cases h),fun id r hr=>?_⟩,?_⟩
  ·exact setRow_other w.drew g b _ fun e=>VC ⟨5,by rw [e];exact ct⟩
  ·obtain rfl:=List.mem_singleton.1 hb
   exact ⟨.inr ⟨5,ct⟩,by rw [dw];exact Nz,fun ⟨id,h⟩=>by cases h⟩
  ·refine ⟨?_,hb.2.2⟩
   rcases hb.1 with h|h
   ·rw [dw];exact (hL.sep b h).1
   ·exact h.2
  ·rw [aF] at hr
   split at hr
   ·cases hr;rfl
   ·cases hr
  ·refine .inl (.inl (.own g (l.length-1) k 4 _ cur' te fr (setRow_heap w.drew g cur cur' te fr hg) (fun t ht=>gJ t ah) (by rw [qQ];omega) ah hx (by rw [b7,xi]) fun t u x hu hx=>?_))
   have ht:t<(l.length-1)*4:=by have:=(List.getElem?_eq_some_iff.1 hx).1;omega
   rw [SE t ht] at hu
   obtain ⟨q,h1,h2⟩:=JS l i hi cur.toList t u x hu hx (by simp;omega)
   refine (b_ q u x (by simpa using h1) h2).mono fun b hb=>?_
   have cW:b≠g:=fun e=>(hL.sep b hb).2 ⟨5,by rw [e];exact ct⟩
   exact ⟨⟨.inl hb,fun q=>cW (List.mem_singleton.1 q),fun ⟨id,h⟩=>(by cases h)⟩,setRow_other w.drew g b _ cW⟩
end Go.Proofs.YtjgbhhnghedgdaaGreatDoor
