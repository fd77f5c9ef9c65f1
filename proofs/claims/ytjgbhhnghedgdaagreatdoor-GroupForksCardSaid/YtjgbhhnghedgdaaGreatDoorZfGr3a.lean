import Derived.Test.YtjgbhhnghedgdaaGreatDoorZfRY
import Derived.Test.YtjgbhhnghedgdaaGreatDoorZfTk3
import Derived.Shelf.RegionOpenPlain
import Derived.WalkKit
import Derived.Lib.SliceRun
set_option linter.all false
namespace Go.Proofs.YtjgbhhnghedgdaaGreatDoor
open Go.RowKit
set_option maxRecDepth 100000
set_option maxHeartbeats 4000000
theorem uG (l:List UInt64) (hl:l.length≤1000000):bA Tryz.prog 52 [.sl 1 (aj l)] (.own 1 (aj l)):=by
 have tK:(aj l).length=l.length:=aE l
 refine zO Tryz.func52 8<|zq<|zS<|zS<|bf.isNil (t:=27) (el:=22) (x:=.tmp 0) (d1:=3) (d2:=4) (e:=1) (row:=aj l) bC bC bC bC bC bC bC Tryz.underlying27 bC bC bC fun b hb=>al ?_
 cases b with
 | true =>
  have e:=hb rfl
  refine zT 4<|zq<|dk (zV [yI e])
 | false =>
  refine zF 4<|a6<|zP 1 [yH [(2,{b:=false})]] [.aa [2,4,0] [7]] [yB (cC (aj l)) (qC _),yO ((0+(aj l).length)*8≤140737488355328)]<|zR (bL)
theorem vn (l:List Mem) (hl:l.length≤1000000):bA Tryz.prog 60 [.sl 4 (ae aN l)] (.own 4 (ae aN l)):=by
 have tK:(ae aN l).length=l.length*4:=aA (e:=4) (fun _=>rfl) ..
 refine zO Tryz.func60 8<|zq<|zS<|zS<|bf.isNil (t:=38) (el:=51) (x:=.tmp 0) (d1:=3) (d2:=4) (e:=4) (row:=ae aN l) bC bC bC bC bC bC bC Tryz.underlying38 bC bC bC fun b hb=>al ?_
 cases b with
 | true =>
  have e:=hb rfl
  refine zT 4<|zq<|dk (zV [yI e])
 | false =>
  refine zF 4<|a6<|zP 1 [yH [(2,{b:=false})]] [.aa [2,4,0] [7]] [yB (cC (ae aN l)) (dJ (fun x=>dQ rfl) _),yO ((0+(ae aN l).length)*40≤562949953421312)]<|zR (bL)
theorem tw (d:oD) (h1:d.box.length≤1000000) (h2:d.af.length≤1000000) (h3:d.ay.length≤1000000):bA Tryz.prog 54 [.agg (bk d)] (.agg (RU d)):=by
 have hc:=De d.af h2
 refine zO Tryz.func54 16<|zP 5 [{},yH [(2,yV (AV.own 1 (ah d.box)))],yH [(2,yD hc)],yH [(2,yC (uG (d.ay) h3))],{}] [.aa [2,1,0] [2,1,13,9,5]] [yI (HH d.box ag),yI (aQ d.box),yL 3 7,yI hc,yL 4 7,yI (uG d.ay h3),yB (lM (aj d.ay)) (gK _),yL 5 7,yL 7 7]<|zR (bL)
theorem BQ (l:List gW) (v:gW) (hl:l.length≤1000):gw Tryz.prog 53 [.ref 5,ai l.length,.sl 4 (ae aW [v])] [(5,⟨4,true,false,ae aW l⟩)] (.own 4 (ae aW (l++ [v]))) [(5,⟨4,true,false,ae aW []⟩)]:=by
 have tK:(ae aW l).length=l.length*4:=aA (e:=4) (fun _=>rfl) ..
 have XH:(ae aW [v]).length=4:=rfl
 refine nw Tryz.func53 95<|bf.tD [.wU 5 77] bC<|bf.pA (bO.add 5 4 bC)<|zP 3 [{},yH [(2,{k:=l.length})],yH [(1,{k:=1})]] [.aa [7,6,0,1,2] [5,77]] [yR (↑l.length:Int),yO (l.length*4≤(ae aW l).length),yR (1*4)]<|zS<|zq<|bj 16 ((↑(1:Nat):Int) == (0:Int)) bx<|a6<|zP 1 [yH [(1,{k:=l.length})]] [.aa [8,16,7,6,0,1,2] [5,77]] [yI tK]<|zS<|zP 1 [{}] [.aa [22,8,16,7,6,0,1,2] [5,77]] []<|du 22 ((↑l.length:Int) == (↑l.length:Int)) fh<|zQ 1 [{}] [yO (((ae aW l).length+4)*72≤562949953421312)]<|dk (zG [] [yB (ae aW l++ae aW [v]=ae aW (l++ [v])) (fT _ _),yB ([]=ae aW []) rfl])
section
variable {P:Program}
theorem rI {ops:Array Oper} {o:Oper} {a:Act} {w:World} {K:Act->World->Prop} {Q:Exit->Act->World->Prop} {E:Prop} (hg:o.guard=none) (d x:Operand) (dT sT:TypeId) (wV:o.op=Op.call {callee:=Callee.builtin Builtin.append,args:= #[d,x],argTypes:= #[dT,sT]})
  (v u:Value) (hd:a.eval d=v) (hx:a.eval x=u) {v':Value} {w':World} (hr:(Builtin.append_ #[dT,sT] o.type #[v,u]).run P w= .ok v' w') (hK:K (a.put o.dst v') w'):if Region.wanted o (yielded ops a.tmps)=true then Oper.wp P o a w K Q else E:=by
 have hw:Region.wanted o (yielded ops a.tmps)=true:=by simp [Region.wanted,hg]
 rw [if_pos hw]
 unfold Oper.wp
 simp [execOp,wV,resolve,invoke,builtin,hd,hx,hr,Result.andThen]
 exact hK
theorem w7 (w:World) (t ty e:TypeId) (i:TypeInfo) (ht:P.underlying t=some (.slice e)) (hi:P.info? e=some i) (g Dg Oe:Nat) (cur:Array Value) (te:TypeId) (fr:Nat×Nat) (hg:w.heap[g]?=some (.cells cur te fr)) (gZ:∀j,j<cur.size-> ¬(fr.1≤j∧j<fr.2))
  (a:Addr) (m c:Nat) (news:List Value) (hl:news.length=m*i.size) (xY:∀j u,news[j]?=some u->w.cell? (a.add j)=some u) (h1:∀u∈news,u.oneCell'=true) (nm:Dg+m≤Oe) (m5:Dg*i.size+news.length≤cur.size) :
  (Builtin.append_ #[t,t] ty #[.slice (some ⟨g,0,none⟩) Dg Oe,.slice (some a) m c]).run P w= .ok (.slice (some ⟨g,0,none⟩) (Dg+m) Oe) (w.setRow g (cur.toList.take (Dg*i.size)++news++cur.toList.drop (Dg*i.size+news.length)).toArray):=by
 have hf:=run_firstCells_some (P:=P) w i.size m a m c news hl xY
 have dC:=cY P g te fr cur.size gZ (Dg*i.size) news 0 cur w hg (by simpa using m5) rfl h1
 simp only [Nat.add_zero] at dC
 simp [Builtin.append_,run_underlying ht,sizeOf,typeInfo,hi,Builtin.lenOf,nm,hf,Addr.add_lit,dC]
theorem yX (w:World) (t e ty:TypeId) (z:Value) (ht:P.underlying t=some (.slice e)) (hv:∀w,(zeroValue e).run P w= .ok z w) (g o n c:Nat) (hn:0<n) (cur:Array Value) (te:TypeId) (fr:Nat×Nat) (hg:w.heap[g]?=some (.cells cur te fr)) (gZ:∀j,j<cur.size-> ¬(fr.1≤j∧j<fr.2))
  (zs:List Value) (hz:(Builtin.zeroCells z.cells n).toList=zs) (h1:∀u∈zs,u.oneCell'=true) (m5:o+zs.length≤cur.size) :
  (Builtin.clear_ #[t] ty #[.slice (some ⟨g,o,none⟩) n c]).run P w= .ok (.tuple #[]) (w.setRow g (cur.toList.take o++zs++cur.toList.drop (o+zs.length)).toArray):=by
 have dC:=cY P g te fr cur.size gZ o zs 0 cur w hg (by simpa using m5) rfl h1
 simp only [Nat.add_zero] at dC
 obtain ⟨m,rfl⟩:∃m,n=m+1:=⟨n-1,ag⟩
 simp [Builtin.clear_,run_underlying ht,hv,hz,dC]
end
def Lo:Value:=.agg #[.string ⟨#[]⟩,.int .i64 0,.int .u64 0,.int .u64 0]
def KN (cur:List Value) (n i:Nat):List Value:=cur.take (i*4)++(cur.take (n*4)).drop ((i+1)*4)
set_option maxHeartbeats 4000000 in
set_option maxRecDepth 1000000 in
theorem EF (w:World) (g n m c i j:Nat) (hj:j=i+1) (hm:n=m+1) (cur:Array Value) (te:TypeId) (fr:Nat×Nat) (hg:w.heap[g]?=some (.cells cur te fr)) (gZ:∀t,t<cur.size-> ¬(fr.1≤t∧t<fr.2)) (hs:cur.size=4*c) (hn:n≤c) (hi:i<n) (h1:∀(t:Nat) u,t<n*4->cur[t]?=some u->u.oneCell'=true) :
  Calls Tryz.prog 152 #[.slice (some ⟨g,0,none⟩) n c,.int .i64 i,.int .i64 j] w fun e w'=>e= .returned (.slice (some ⟨g,0,none⟩) m c)∧ ∃cur',w'=w.drew.setRow g cur'∧cur'.size=cur.size∧ ∀t,t<m*4->cur'[t]?=(KN cur.toList n i)[t]?:=by
 have mixed:Tryz.prog.follows .mixedOrders=true:=by kernel_rfl
 obtain ⟨i0,P9,l9,S9⟩:∃i0:TypeInfo,Tryz.prog.info? 51=some i0∧i0.size=4∧i0.zero=some Lo:=by
  have h:(Tryz.prog.info? 51).map (fun i=>(i.size,i.zero))=some (4,some Lo):=by kernel_rfl
  cases hp:Tryz.prog.info? 51 with
  | none=>rw [hp] at h;cases h
  | some i=>rw [hp] at h;simp at h;exact ⟨i,rfl,h⟩
 have gC:cur.toList.length=4*c:=by simp [hs]
 obtain ⟨news,xY⟩:∃news,news=(cur.toList.take (n*4)).drop (j*4):=⟨_,rfl⟩
 have FP:news.length=(n-j)*4:=by rw [xY,List.length_drop,List.length_take,gC];omega
 have OU:∀t,t<(n-j)*4->news[t]?=cur[j*4+t]?:=fun t ht=>by
  rw [xY,List.getElem?_drop,List.getElem?_take,if_pos ag,Array.getElem?_toList]
 obtain ⟨A,hA,gP⟩:∃A:Addr,(if c=j then some (⟨g,0,none⟩:Addr) else some ⟨g,j*4,none⟩)=some A∧(∀t u,news[t]?=some u->w.drew.cell? (A.add t)=some u):=by
  by_cases h:c=j
  ·refine ⟨⟨g,0,none⟩,by simp [h],fun t u hu=>?_⟩
   have h0:news.length=0:=by rw [FP];omega
   rw [List.length_eq_zero_iff.1 h0] at hu
   simp at hu
  ·refine ⟨⟨g,j*4,none⟩,by simp [h],fun t u hu=>?_⟩
   have ht:t<(n-j)*4:=by
    have:=(List.getElem?_eq_some_iff.1 hu).1
    rwa [FP] at this
   rw [OU t ht] at hu
   rw [Addr.add_lit]
   show w.cell? _=_
   simp only [World.cell?,hg]
   exact hu
 have vI:∀u∈news,u.oneCell'=true:=fun u hu=>by
  obtain ⟨t,ht⟩:=List.getElem?_of_mem hu
  have BU:t<(n-j)*4:=by
   have:=(List.getElem?_eq_some_iff.1 ht).1
   rwa [FP] at this
  rw [OU t BU] at ht
  exact h1 _ _ ag ht
 obtain ⟨sH,FX⟩:∃sH,sH=(cur.toList.take (i*4)++news++cur.toList.drop (i*4+news.length)).toArray:=⟨_,rfl⟩
 have Ca:∀ty,(Builtin.append_ #[38,38] ty #[.slice (some ⟨g,0,none⟩) i c,.slice (some A) (n-j) (c-j)]).run Tryz.prog w.drew= .ok (.slice (some ⟨g,0,none⟩) m c) (w.drew.setRow g sH):=fun ty=>by
  have h:=w7 (P:=Tryz.prog) w.drew 38 ty 51 i0 Tryz.underlying38 P9 g i c cur te fr hg gZ A (n-j) (c-j) news (by rw [FP,l9]) gP vI ag (by rw [l9,FP,hs];omega)
  rw [l9,show i+(n-j)=m by omega] at h
  rw [FX];exact h
 have ij:sH.size=cur.size:=by
  rw [FX];simp only [List.size_toArray,List.length_append,List.length_take,List.length_drop,FP,gC,hs];omega
 have Ha:(w.drew.setRow g sH).heap[g]?=some (.cells sH te fr):=setRow_heap w.drew g cur sH te fr hg
 obtain ⟨zs,vD⟩:∃zs:List Value,zs= [.string ⟨#[]⟩,.int .i64 0,.int .u64 0,.int .u64 0]:=⟨_,rfl⟩
 have Sg:(Builtin.zeroCells Lo.cells 1).toList=zs:=by rw [vD];kernel_rfl
 have HT:zs.length=4:=by rw [vD];rfl
 have UT:∀u∈zs,u.oneCell'=true:=by rw [vD];simp [Value.oneCell']
 obtain ⟨EK,FW⟩:∃EK,EK=(sH.toList.take (m*4)++zs++sH.toList.drop (m*4+zs.length)).toArray:=⟨_,rfl⟩
 have WN:∀ty,(Builtin.clear_ #[38] ty #[.slice (some ⟨g,m*4,none⟩) (n-m) (c-m)]).run Tryz.prog (w.drew.setRow g sH)= .ok (.tuple #[]) ((w.drew.setRow g sH).setRow g EK):=fun ty=>by
  rw [show n-m=1 by omega,FW]
  exact yX (P:=Tryz.prog) _ _ _ ty Lo Tryz.underlying38 (fun w=>i5 (by rw [P9];exact S9)) g _ 1 _ ag sH te fr Ha (fun t ht=>gZ t ag) zs Sg UT (by rw [HT,ij,hs];omega)
 have fin:∃cur',(w.drew.setRow g sH).setRow g EK=w.drew.setRow g cur'∧cur'.size=cur.size∧ ∀t,t<m*4->cur'[t]?=(KN cur.toList n i)[t]?:=by
  refine ⟨EK,?_,?_,fun t ht=>?_⟩
  ·unfold World.setRow
   congr 1
   apply Array.ext_getElem?
   intro b
   simp only [Array.getElem?_modify]
   by_cases hb:g=b
   ·subst hb
    simp only [if_pos]
    rw [show w.drew.heap[g]?=some (.cells cur te fr) from hg];rfl
   ·simp only [if_neg hb]
  ·rw [FW];simp only [List.size_toArray,List.length_append,List.length_take,List.length_drop,HT,Array.length_toList,ij,hs];omega
  ·rw [FW,List.getElem?_toArray,List.append_assoc,List.getElem?_append_left (by rw [List.length_take,Array.length_toList,ij,hs];omega),List.getElem?_take,if_pos ht,FX]
   rw [List.getElem?_append_left (by simp only [List.length_append,List.length_take,FP,gC];omega),xY];unfold KN;rw [←hj]
 have b1:i≤c:=ag
 have b2:j≤c:=ag
 have b3:¬((i:Int)=(j:Int)):=ag
 have b4:j≤n:=ag
 have b5:i≤n:=ag
 have b6:i≤j:=ag
 have e1:i+(n-j)=m:=ag
 have b8:m≤n:=ag
 have b9:m≤c:=ag
 have X8:¬(c=m):=ag
 clear hj hm
 clear FX FW xY OU gP vI ij Ha vD Sg HT UT FP gC h1
 go_enter Tryz.func152,Tryz.ntmps152
 go_wp2_with fail
 go_region_law_o (refine rI rfl (.tmp 22) (.tmp 25) 38 38 rfl (.slice (some ⟨g,0,none⟩) i c) (.slice (some A) (n-j) (c-j)) (by simp [Act.eval,Act.put]) (by simp [Act.eval,Act.put]) (Ca _) ?_)
 go_wp2
 go_ret
 exact ⟨rfl,fin⟩
theorem KM (l:List Mem) (i:Nat) (hi:i<l.length) (cur:List Value) (t:Nat) (u:Value) (x:AV) (hu:(KN cur l.length i)[t]?=some u) (hx:(ae aN (ke l i))[t]?=some x) (hl:l.length*4≤cur.length):∃k:Nat,cur[k]?=some u∧(ae aN l)[k]?=some x:=by
 have OX:(ae aN l).length=l.length*4:=aA (e:=4) (fun _=>rfl) ..
 have e:ae aN (ke l i)=(ae aN l).take (i*4)++(ae aN l).drop ((i+1)*4):=by
  rw [oT (e:=4) (fun _=>rfl),oU (e:=4) (fun _=>rfl),fT];rfl
 rw [e] at hx
 unfold KN at hu
 by_cases c:t<i*4
 ·rw [List.getElem?_append_left (by rw [List.length_take];omega),List.getElem?_take,if_pos c] at hu hx
  exact ⟨t,hu,hx⟩
 ·rw [List.getElem?_append_right (by rw [List.length_take];omega),List.length_take,Nat.min_eq_left ag,List.getElem?_drop] at hu hx
  rw [List.getElem?_take] at hu
  split at hu
  ·exact ⟨_,hu,hx⟩
  ·cases hu
theorem CF (l:List Mem) (i:Nat) (hi:i<l.length):gw Tryz.prog 152 [.ref 5,ai i,ai (i+1:Nat)] [(5,⟨4,true,false,ae aN l⟩)] (.own 4 (ae aN (ke l i))) [(5,⟨4,true,false,ae aN []⟩)]:=by
 have OX:(ae aN l).length=l.length*4:=aA (e:=4) (fun _=>rfl) ..
 have ud:(ae aN (ke l i)).length=(l.length-1)*4:=by
  rw [aA (e:=4) (fun _=>rfl)]
  unfold ke
  simp only [List.length_append,List.length_take,List.length_drop];omega
 have pv:cC (ae aN l):=dJ (fun x=>dQ rfl) _
 intro w S φ vs km XX hL hlen dX
 obtain ⟨a,b,c,rfl⟩:=R1 hlen rfl
 have d0:=dX 0 a _ rfl rfl
 have hr:=hL.rows 5 _ rfl
 have eb:b= .int .i64 i:=bF (dX 1 b _ rfl rfl)
 have ec:c= .int .i64 (i+1:Nat):=bF (dX 2 c _ rfl rfl)
 subst eb ec
 cases d0 with
 | rep h=>cases h
 | cB _ e' hI =>
  have hI:some (_,(ae aN l).length,_)=some (e',0,none):=hI
  injection hI with hI;injection hI with _ hI;injection hI with hI _
  omega
 | ref _ e m g n k hI hm hk hx hs =>
  have hI:some (4,(ae aN l).length,φ 5)=some (e,m,some g):=hI
  injection hI with hI;injection hI with e1 hI;injection hI with e2 bY
  subst e1 e2
  rw [bY] at hr
  obtain ⟨cur,te,fr,hg,gZ,hle,-,hc⟩:=hr
  have x8:cur.size=4*k:=by unfold aY at hs;rw [hg] at hs;exact hs
  have FP:n=l.length:=ag
  subst FP
  have bV:∀(j:Nat) u x,cur[j]?=some u->(ae aN l)[j]?=some x->cz S w u x:=hc
  refine (EF w g l.length (l.length-1) k i (i+1) rfl ag cur te fr hg gZ x8 hk hi fun t u ht hu=>?_).mono ?_
  ·have VX:(ae aN l)[t]?=some (ae aN l)[t]:=List.getElem?_eq_getElem ag
   exact Fp (bV t u _ hu VX) (pv _ (List.getElem_mem _))
  rintro e w' ⟨rfl,cur',rfl,bT,TV⟩
  have dB:(w.drew.setRow g cur').heap.size=w.heap.size:=by simp [World.setRow]
  have OS:g<w.heap.size:=hL.lt 5 g bY
  have UN:∀id,id≠5->φ id=none:=fun id h=>hL.only id (by
   rw [aD,if_neg fun e=>h e.symm];rfl)
  refine ⟨_,[g],fun _=>none,rfl,rfl,rfl,rfl,by rw [dB];exact Nat.le_refl _,fun b hb WR=>?_,by simp,fun b hb=>?_,fun id b h=>(by cases h),fun id b _ h=>(by cases h),⟨fun b hb=>?_,fun _ _=>rfl,fun id pU b h=>(by cases h),fun id b h=>(by cases h),fun id r hr=>?_⟩,?_⟩
  ·exact setRow_other w.drew g b _ fun e=>WR ⟨5,by rw [e];exact bY⟩
  ·obtain rfl:=List.mem_singleton.1 hb
   exact ⟨.inr ⟨5,bY⟩,by rw [dB];exact OS,fun ⟨id,h⟩=>by cases h⟩
  ·refine ⟨?_,hb.2.2⟩
   rcases hb.1 with h|h
   ·rw [dB];exact (hL.sep b h).1
   ·exact h.2
  ·rw [aD] at hr
   split at hr
   ·cases hr;rfl
   ·cases hr
  ·refine .inl (.inl (.own g (l.length-1) k 4 _ cur' te fr (setRow_heap w.drew g cur cur' te fr hg) (fun t ht=>gZ t ag) (by rw [ud];omega) ag hx (by rw [bT,x8]) fun t u x hu hx=>?_))
   have ht:t<(l.length-1)*4:=by have:=(List.getElem?_eq_some_iff.1 hx).1;omega
   rw [TV t ht] at hu
   obtain ⟨q,h1,h2⟩:=KM l i hi cur.toList t u x hu hx (by simp;omega)
   refine (bV q u x (by simpa using h1) h2).mono fun b hb=>?_
   have cU:b≠g:=fun e=>(hL.sep b hb).2 ⟨5,by rw [e];exact bY⟩
   exact ⟨⟨.inl hb,fun q=>cU (List.mem_singleton.1 q),fun ⟨id,h⟩=>(by cases h)⟩,setRow_other w.drew g b _ cU⟩
end Go.Proofs.YtjgbhhnghedgdaaGreatDoor
