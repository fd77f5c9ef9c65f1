import Derived.Test.YtjgbhhnghedgdaaGreatDoorZfGrE5
import Derived.Test.YtjgbhhnghedgdaaGreatDoorZfGrN3
import Derived.Test.YtjgbhhnghedgdaaGreatDoorZfGrT
set_option linter.all false
namespace Go.Proofs.YtjgbhhnghedgdaaGreatDoor
open Go.RowKit
set_option maxRecDepth 100000
set_option maxHeartbeats 4000000
theorem Ho (e:dj) (hB:l8 e):bA Tryz.prog 70 [.agg (aG e)] (aw (cO e)):=by
 have hb:=nS e hB
 have hl:=zJ e
 have hw:=lS (dM e) ag
 rw [show hash 16 (dM e)=cO e from rfl] at hw
 generalize dM e=B at *
 generalize eO e=E at *
 generalize cO e=W at *
 refine zO Tryz.func70 12<|zP 3 [{},yH [(1,yC hb)],yH [(1,yC hw)]] [.aa [2,3,1,0] [1007,1]] [yI hb,yI (aQ B),yI hw]<|zR (bL)
theorem Lt {W:UInt64} {v:gW} {j:Nat} (hj:j<10) (h:wR W v) (hn:v.name=(dv j).name):kM (dv j).h (dv j).r W v.leaf v.fb v.path=0:=by
 obtain ⟨i,hi,z,hz,rfl⟩:=h
 have e:=zn hi hj hn
 subst e
 show kM 4 (LU (300+u64 (i:Int)) 4) W (z:Int) _ _=0
 rw [Ol]
 exact A2 (300+u64 (i:Int)) 4 z W ag ag
theorem xF (e:dj) (n:List UInt8) (hB:l8 e) (hv:∀v∈e.ak,wR (cO e) v) (hd:l0 e.ak n=true) (hl:e.ak.length≤1000):bA Tryz.prog 37 [.agg (aG e),di n] (ao true):=by
 have xW:(ae aW e.ak).length=e.ak.length*4:=aA (e:=4) (fun _=>rfl) ..
 have hw:=Ho e hB
 refine zO Tryz.func37 46<|zq<|zS<|zq<|zB 0 (zL (fun (i:Nat)=>(⟨[(2,AV.addr 2 0),(0,AV.agg (aG e)),(1,di n),(5,ai i)],[(2,⟨1,false,true,aG e⟩)]⟩:AS)) (fun i=>(i≤e.ak.length∧ ∀j,j<i->(e.ak.getD j default).name≠n)) (fun i=>(e.ak.length-i)) (0) ?_ (zW [.aa [2,0,1,5] [2]]) ?_)
 ·exact ⟨ag,ag⟩
 rintro i ⟨hi,fO⟩
 by_cases dc:i<e.ak.length
 case neg =>
  have:=Aq (l:=e.ak) (n:=n) fun j hj=>fO j ag
  rw [hd] at this
  cases this
 have ic:=jF dc
 have Tf:=hv (e.ak.getD i default) (by rw [eE dc];exact List.getElem_mem dc)
 by_cases en:(e.ak.getD i default).name=n
 case neg =>
  refine zS<|zP 1 [yH [(3,{k:=e.ak.length})]] [.aa [11,2,0,1,5] [2]] [yI xW]<|gX 11 ((↑i:Int)<(↑e.ak.length:Int))<|a6<|zS<|zB 1<|zq<|zB 2 (zL (fun (k:Nat)=>(⟨[(11,ao (decide ((↑i:Int)<(↑e.ak.length:Int)))),(2,AV.addr 2 0),(0,AV.agg (aG e)),(1,di n),(5,ai ↑i),(6,ai k)],[(2,⟨1,false,true,aG e⟩)]⟩:AS)) (fun k=>(k≤10)) (fun k=>(10-k)) (0) ?_ (zW [.aa [11,2,0,1,5,6] [2]]) ?_)
  ·omega
  intro k hk
  refine zS<|zq (zD 15 ((↑k:Int)<10) (fun q=>?_) (fun q=>?_))
  ·skip
   refine a6<|zS<|zB 3<|zP 1 [yH ([(3,{k:=i}),(5,yV (di (e.ak.getD i default).name)),(7,yV (ao ((e.ak.getD i default).name == n))),(14,{b:=false})]++yg [9,10,11,12,13])] [.aa [32,15,11,2,0,1,5,6] [2]] ([yR (↑i:Int),yO (i*4<(ae aW e.ak).length),yA aW e.ak i 0,yI (eY ((e.ak.getD i default).name) n)]++yM 6 (yS (((e.ak.getD i default).name == n)=false)))<|zF 32<|zK<|aK<|al<|zX (yH [(1,yV (ai ((↑k:Int)+1)))]) [yN ((↑k:Int)+1)] (aF (k+1) ag ag (zW [.aa [11,2,0,1,5,6] [2]]))
  ·skip
   refine zE 2<|a7<|aP<|bp<|aK<|al<|zX (yH [(1,yV (ai ((↑i:Int)+1)))]) [yN ((↑i:Int)+1)] (aF (i+1) ⟨ag,fun j hj=>by by_cases e2:j=i;(subst e2;exact en);exact fO j ag⟩ ag (zW [.aa [2,0,1,5] [2]]))
 obtain ⟨m,hm,z,hz,ez⟩:=Tf
 have So:(dv m).name=n:=by rw [←en,ez]
 have BZ:=Lt hm (hv (e.ak.getD i default) (by rw [eE dc];exact List.getElem_mem dc)) (by rw [en,So])
 have PY:=pf (dv m).h (dv m).r (cO e) (e.ak.getD i default).leaf (e.ak.getD i default).fb (e.ak.getD i default).path
 rw [BZ] at PY
 clear ez BZ hv
 generalize cO e=W at *
 refine zS<|zP 1 [yH [(3,{k:=e.ak.length})]] [.aa [11,2,0,1,5] [2]] [yI xW]<|gX 11 ((↑i:Int)<(↑e.ak.length:Int))<|a6<|zS<|zB 1<|zq<|zB 2 (zL (fun (k:Nat)=>(⟨[(11,ao (decide ((↑i:Int)<(↑e.ak.length:Int)))),(2,AV.addr 2 0),(0,AV.agg (aG e)),(1,di n),(5,ai ↑i),(6,ai k)],[(2,⟨1,false,true,aG e⟩)]⟩:AS)) (fun k=>(k≤m)) (fun k=>(10-k)) (0) ?_ (zW [.aa [11,2,0,1,5,6] [2]]) ?_)
 ·omega
 intro k hk
 have Ri:=fC k ag
 by_cases ek:k=m
 ·subst ek
  generalize dv k=M at *
  refine zS<|zq<|gX 15 ((↑k:Int)<10)<|a6<|zS<|zB 3<|zP 1 [yH [(3,{k:=i}),(5,yV (di (e.ak.getD i default).name)),(7,yV (ao ((e.ak.getD i default).name == n))),(10,yC Ri),(13,yV (ao true))]] [.aa [32,15,11,2,0,1,5,6] [2]] ([yR (↑i:Int),yO (i*4<(ae aW e.ak).length),yA aW e.ak i 0,yI (eY ((e.ak.getD i default).name) n)]++yM 2 (yS (((e.ak.getD i default).name == n)=true))++ [yI Ri]++yM 3 (yS (((e.ak.getD i default).name == n)=true))++ [yS (ao ((ByteArray.mk M.name.toArray).toList == (ByteArray.mk n.toArray).toList)=ao true),yS (((e.ak.getD i default).name == n)=true)])<|zT 32<|bf.pe 1 [{hs:=[(1,{av:=some (AV.agg (aN M))}),(4,{av:=some (aw W)}),(8,{k:=i}),(10,{av:=some (AV.agg [ai ((e.ak.getD i default).leaf),AV.sl 1 (aj (e.ak.getD i default).fb),AV.sl 1 (aj (e.ak.getD i default).path)])}),(11,{av:=some (ai 0)}),(12,{av:=some (ao true)})],T:=11}] [.aa [4,32,15,11,2,0,1,5,6] [2]] bC (s':=AS.mk [(4,ao true),(32,ao true),(15,ao (decide ((↑k:Int)<10))),(11,ao (decide ((↑i:Int)<(↑e.ak.length:Int)))),(2,AV.addr 2 0),(0,AV.agg (aG e)),(1,di n),(5,ai ↑i),(6,ai ↑k)] [(2,Row.mk 1 false true (aG e))]) (C:=[bA Tryz.prog 18 [ai ↑k] (AV.agg (aN M)),bA Tryz.prog 70 [AV.agg (aG e)] (aw W),(↑i:Int)=(↑i:Int),i*4<(ae aW e.ak).length,List.take 3 (List.drop (i*4+1) (ae aW e.ak))= [ai ((e.ak.getD i default).leaf),AV.sl 1 (aj (e.ak.getD i default).fb),AV.sl 1 (aj (e.ak.getD i default).path)],[ai ((e.ak.getD i default).leaf),AV.sl 1 (aj (e.ak.getD i default).fb),AV.sl 1 (aj (e.ak.getD i default).path)].length=3,bA Tryz.prog 69 [AV.agg [ai M.h,aw M.r],aw W,AV.agg [ai ((e.ak.getD i default).leaf),AV.sl 1 (aj (e.ak.getD i default).fb),AV.sl 1 (aj (e.ak.getD i default).path)]] (ai 0),ao ((0:Int) == (0:Int))=ao true]) bC ⟨(Ri),(hw),rfl,ag,(CB (f:=aW) (e:=4) (k:=i) (j:=1) (fun _=>rfl) ag (by decide) rfl),rfl,(PY),rfl,trivial⟩<|zR<|ba<|aI<|dh<|ba<|ba<|aI<|dh<|ba<|aI (bL)
 ·have cU:(dv k).name≠n:=fun q=>ek (zn ag hm (by rw [q,So]))
  generalize dv k=M at *
  refine zS<|zq<|gX 15 ((↑k:Int)<10)<|a6<|zS<|zB 3<|zP 1 [yH [(3,{k:=i}),(5,yV (di (e.ak.getD i default).name)),(7,yV (ao ((e.ak.getD i default).name == n))),(10,yC Ri),(13,yV (ao false))]] [.aa [32,15,11,2,0,1,5,6] [2]] ([yR (↑i:Int),yO (i*4<(ae aW e.ak).length),yA aW e.ak i 0,yI (eY ((e.ak.getD i default).name) n)]++yM 2 (yS (((e.ak.getD i default).name == n)=true))++ [yI Ri]++yM 3 (yS (((e.ak.getD i default).name == n)=true))++ [yS (ao ((ByteArray.mk M.name.toArray).toList == (ByteArray.mk n.toArray).toList)=ao false),yS (((e.ak.getD i default).name == n)=true)])<|zF 32<|zK<|aK<|al<|zX (yH [(1,yV (ai ((↑k:Int)+1)))]) [yN ((↑k:Int)+1)] (aF (k+1) ag ag (zW [.aa [11,2,0,1,5,6] [2]]))
structure UC (n:Nat) (a b:List dj):Prop where
 A:wS a
 B:wS b
 la:a.length≤100
 lb:b.length≤100
 e:DE (dv 0) a b=0
 n:n≤kf a b
 fork:kf a b<a.length->kf a b<b.length->ie (a.getD (kf a b) default).ak (b.getD (kf a b) default).ak≠ []∧(ie (a.getD (kf a b) default).ak (b.getD (kf a b) default).ak).Pairwise fun x y=>xT y x=false
 va:∀e∈a,∀v∈e.ak,wR (cO e) v
 vb:∀e∈b,∀v∈e.ak,wR (cO e) v
theorem MU (x:List dj):∀a b:List dj,x.length≤kf (x++a) (x++b):=by
 induction x with
 | nil=>intro a b;exact Nat.zero_le _
 | cons e x ih =>
  intro a b
  show _≤(if dM e=dM e then kf (x++a) (x++b)+1 else 0)
  rw [if_pos rfl]
  exact Nat.succ_le_succ (ih a b)
theorem Fm {l:List dj} (h:∀i,i<l.length->lQ l (bU (dv 0)) i=0):pG (dv 0) l=0:=by
 unfold pG
 rw [if_neg (fun q=>q BF)]
 exact z6 h
theorem MB {c ca cb:rA} (hc:EX (bU (dv 0)) ca) (hd:EX (bU (dv 0)) cb) {n1 n2:Nat} (Vy:wT ca n1) (Qh:wT cb n2) (h1:n1≤100) (h2:n2≤100) (ta:∃t,ca.log=c.log++t) (tb:∃t,cb.log=c.log++t):UC c.log.length ca.log cb.log:=by
 have l1:=Vy.len
 have l2:=Qh.len
 refine ⟨Vy.RP,Qh.RP,ag,ag,?_,?_,fun q1 q2=>⟨RM (Ou BF) hc.ok hd.ok hc.Qu hd.Qu q1 q2,?_⟩,hc.Qu,hd.Qu⟩
 ·unfold DE
  rw [Fm hc.ok,if_neg ag]
  exact Fm hd.ok
 ·obtain ⟨t,e⟩:=ta
  obtain ⟨u,e2⟩:=tb
  rw [e,e2]
  exact MU _ _ _
 ·have:=hc.ok _ q1
  exact Ke this (hc.Qu _ (by rw [eE q1];exact List.getElem_mem q1)) _
theorem vU (n left right:List Int) (_:∀x∈n,BR x) (_:∀x∈left,BR x) (_:∀x∈right,BR x):bA Tryz.prog 10 [.sl 1 (ax n),.sl 1 (ax left),.sl 1 (ax right)] (ao true):=by
 refine bA.len 0 rfl fun xc=>bA.len 1 rfl fun FT=>bA.len 2 rfl fun B0=>?_
 rw [kF] at xc FT B0
 have Qd:=CM
 have hC:=Pw
 have N1:=si n CJ 0 8 ag (Nat.zero_le _) ag ⟨hC.b7,hC.CW,Nat.zero_le _,hC.RP⟩
 obtain ⟨hB,hk⟩:=sg n (s:=(CJ,0)) hC (Nat.zero_le _) 8
 obtain ⟨hF,-⟩:=zI n (s:=(CJ,0)) Pv hC (Nat.zero_le _) 8
 generalize c_ n (CJ,0) 8=s at *
 obtain ⟨c,k⟩:=s
 simp only at N1 hB hk hF
 have N2:=si left c 0 3 ag (Nat.zero_le _) ag ⟨hB.b7,hB.CW,by have:=hB.len;omega,hB.RP⟩
 have N3:=si right c 0 3 ag (Nat.zero_le _) ag ⟨hB.b7,hB.CW,by have:=hB.len;omega,hB.RP⟩
 obtain ⟨Qh,-⟩:=sg left (s:=(c,0)) hB (Nat.zero_le _) 3
 obtain ⟨Uh,-⟩:=sg right (s:=(c,0)) hB (Nat.zero_le _) 3
 obtain ⟨J3,t2⟩:=zI left (s:=(c,0)) hF hB (Nat.zero_le _) 3
 obtain ⟨Ue,t3⟩:=zI right (s:=(c,0)) hF hB (Nat.zero_le _) 3
 generalize c_ left (c,0) 3=s at *
 obtain ⟨ca,ka⟩:=s
 generalize c_ right (c,0) 3=s at *
 obtain ⟨cb,kb⟩:=s
 simp only at N2 N3 Qh Uh J3 Ue t2 t3
 have hI:=MB J3 Ue Qh Uh ag ag t2 t3
 clear Qh Uh J3 Ue t2 t3 hF hC hk
 unfold AL at N1 N2 N3
 have hm:=fC 0 ag
 have JM:=GR (dv 0) ca.log cb.log (Nat.le_of_ble_eq_true rfl) (by have:=hI.la;omega) (by have:=hI.lb;omega) hI.A hI.B
 have gC:=hB.len
 obtain ⟨hA,Vx,la,lb,he,hn,Vh,va,vb⟩:=hI
 have le:=EM ca.log cb.log
 have eL:DD (dv 0) ca.log cb.log=if kf ca.log cb.log<ca.log.length∧kf ca.log cb.log<cb.log.length then ie (ca.log.getD (kf ca.log cb.log) default).ak (cb.log.getD (kf ca.log cb.log) default).ak else []:=by
  unfold DD;rw [he]
  by_cases q:kf ca.log cb.log<ca.log.length∧kf ca.log cb.log<cb.log.length
  ·rw [if_pos q,if_pos ⟨rfl,q⟩]
  ·rw [if_neg q,if_neg (fun w=>q w.2)]
 rw [show I9 (dv 0) ca.log cb.log=kf ca.log cb.log from if_pos he,he,eL] at JM
 clear eL he
 generalize dv 0=m at *
 refine zO Tryz.func10 123<|zP 2 [{},yH [(1,yD (oI (n))),(2,yD yl),(3,yE [(15,1000000000000)] N1)]] [.aa [7,6,0,1,2] [7]] [yI (oI n),yI yl,yI N1,yB ([AV.sl 1 (ax n),ai (↑(0:Nat):Int)].length= [AV.sl 1 (ax n),ai ↑k].length∧0< [AV.sl 1 (ax n),ai ↑k].length) ⟨rfl,Nat.succ_pos _⟩,yL 16 16]<|zS<|yw 3 [1] [(1,yD (oI (left))),(3,yE [(19,1000000000000)] N2)] [yI (oI left),yR (AV.agg [ai c.b7.aC,aw c.b7.head,ai c.b7.bm,AV.sl 4 (ae aN c.b7.aq),AV.sl 7 (ae bk c.b7.aR),AV.sl 17 (ae aG c.log),ai (c.nx 0),ai (c.nx 1),ai (c.nx 2),ai (c.nx 3),ai (c.nx 4),ai (c.nx 5),ai (c.nx 6),ai (c.nx 7),ai (c.nx 8),ai (c.nx 9)]),yI N2,yB ([AV.sl 1 (ax left),ai (↑(0:Nat):Int)].length= [AV.sl 1 (ax left),ai ↑ka].length∧0< [AV.sl 1 (ax left),ai ↑ka].length) ⟨rfl,Nat.succ_pos _⟩]<|al<|zS<|yw 3 [1] [(1,yD (oI (right))),(3,yE [(24,1000000000000)] N3)] [yI (oI right),yR (AV.agg [ai c.b7.aC,aw c.b7.head,ai c.b7.bm,AV.sl 4 (ae aN c.b7.aq),AV.sl 7 (ae bk c.b7.aR),AV.sl 17 (ae aG c.log),ai (c.nx 0),ai (c.nx 1),ai (c.nx 2),ai (c.nx 3),ai (c.nx 4),ai (c.nx 5),ai (c.nx 6),ai (c.nx 7),ai (c.nx 8),ai (c.nx 9)]),yI N3,yB ([AV.sl 1 (ax right),ai (↑(0:Nat):Int)].length= [AV.sl 1 (ax right),ai ↑kb].length∧0< [AV.sl 1 (ax right),ai ↑kb].length) ⟨rfl,Nat.succ_pos _⟩]<|al ?_
 generalize ca.log=A at *
 generalize cb.log=B at *
 generalize hK:kf A B=K at *
 by_cases c1:K<A.length
 case neg =>
  rw [if_neg (fun q=>c1 q.1)] at JM
  refine zP 1 [yH [(0,yC hm),(3,yD JM)]] [.aa [12,11,10,9,8,7,6,0,1,2] [2032,7]] [yI hm,yI JM]<|zS<|zP 1 [yH ([(6,{k:=c.log.length,g:=false}),(8,{b:=false}),(12,{k:=A.length,g:=false}),(14,{b:=false}),(18,{k:=B.length,g:=false}),(20,{b:=false})]++yg [3,4,5,7,10,11,13,16,17,19])] [.aa [56,12,11,10,9,8,7,6,0,1,2] [2032,7]] (yM 4 (yR false)++ [yB ((ae aG c.log).length=c.log.length*17) (by simp only [aA (f:=aG) (e:=17) (fun _=>rfl)]),yR false,yR false]++yM 3 (yF ((↑K:Int)<(↑c.log.length:Int)))++ [yB ((ae aG A).length=A.length*17) (by simp only [aA (f:=aG) (e:=17) (fun _=>rfl)])]++yM 2 (yF ((↑K:Int)<(↑c.log.length:Int)))++yM 3 (yF ((↑K:Int)>(↑A.length:Int)))++ [yB ((ae aG B).length=B.length*17) (by simp only [aA (f:=aG) (e:=17) (fun _=>rfl)])]++yM 2 (yF ((↑K:Int)>(↑A.length:Int))))<|dm 56 ((↑K:Int)>(↑B.length:Int))<|a6<|zS<|zP 1 [yH [(2,{k:=A.length})]] [.aa [66,56,12,11,10,9,8,7,6,0,1,2] [2032,7]] ([yB ((ae aG A).length=A.length*17) (by simp only [aA (f:=aG) (e:=17) (fun _=>rfl)])]++yM 5 (yB (((↑K:Int) == (↑A.length:Int))=true) fh))<|zT 66<|zP 1 [yH [(1,{k:=(ae au []).length}),(4,yC Qd)]] [.aa [6,66,56,12,11,10,9,8,7,0,1,2] [2032,7]] [yR 0,yR true,yI Qd,yR true]<|dk (bL)
 by_cases c2:K<B.length
 case neg =>
  rw [if_neg (fun q=>c2 q.2)] at JM
  refine zP 1 [yH [(0,yC hm),(3,yD JM)]] [.aa [12,11,10,9,8,7,6,0,1,2] [2032,7]] [yI hm,yI JM]<|zS<|zP 1 [yH ([(6,{k:=c.log.length,g:=false}),(8,{b:=false}),(12,{k:=A.length,g:=false}),(14,{b:=false}),(18,{k:=B.length,g:=false}),(20,{b:=false})]++yg [3,4,5,7,10,11,13,16,17,19])] [.aa [56,12,11,10,9,8,7,6,0,1,2] [2032,7]] (yM 4 (yR false)++ [yB ((ae aG c.log).length=c.log.length*17) (by simp only [aA (f:=aG) (e:=17) (fun _=>rfl)]),yR false,yR false]++yM 3 (yF ((↑K:Int)<(↑c.log.length:Int)))++ [yB ((ae aG A).length=A.length*17) (by simp only [aA (f:=aG) (e:=17) (fun _=>rfl)])]++yM 2 (yF ((↑K:Int)<(↑c.log.length:Int)))++yM 3 (yF ((↑K:Int)>(↑A.length:Int)))++ [yB ((ae aG B).length=B.length*17) (by simp only [aA (f:=aG) (e:=17) (fun _=>rfl)])]++yM 2 (yF ((↑K:Int)>(↑A.length:Int))))<|dm 56 ((↑K:Int)>(↑B.length:Int))<|a6<|zS<|zP 1 [yH ([(2,{k:=A.length}),(7,{k:=B.length,g:=false}),(9,{b:=false})]++yg [5,6,8])] [.aa [66,56,12,11,10,9,8,7,6,0,1,2] [2032,7]] ([yB ((ae aG A).length=A.length*17) (by simp only [aA (f:=aG) (e:=17) (fun _=>rfl)])]++yM 3 (yB (((↑K:Int) == (↑A.length:Int))=false) bx)++ [yB ((ae aG B).length=B.length*17) (by simp only [aA (f:=aG) (e:=17) (fun _=>rfl)])]++yM 2 (yB (((↑K:Int) == (↑A.length:Int))=false) bx))<|du 66 ((↑K:Int) == (↑B.length:Int)) fh<|zP 1 [yH [(1,{k:=(ae au []).length}),(4,yC Qd)]] [.aa [6,66,56,12,11,10,9,8,7,0,1,2] [2032,7]] [yR 0,yR true,yI Qd,yR true]<|dk (bL)
 rw [if_pos ⟨c1,c2⟩] at JM
 obtain ⟨f1,f2⟩:=Vh c1 c2
 have ha:=(hA.at_ c1).1
 have hb:=(Vx.at_ c2).1
 have w1:=(hA.at_ c1).2
 have w2:=(Vx.at_ c2).2
 have va:=va (A.getD K default) (by rw [eE c1];exact List.getElem_mem c1)
 have vb:=vb (B.getD K default) (by rw [eE c2];exact List.getElem_mem c2)
 have ic:=qY c1
 have FY:=qY c2
 have fin:∀i,i<(ie (A.getD K default).ak (B.getD K default).ak).length->l0 (A.getD K default).ak ((ie (A.getD K default).ak (B.getD K default).ak).getD i default)=true∧l0 (B.getD K default).ak ((ie (A.getD K default).ak (B.getD K default).ak).getD i default)=true:=fun i hi=>by
  have ob:(ie (A.getD K default).ak (B.getD K default).ak).getD i default∈ie (A.getD K default).ak (B.getD K default).ak:=by rw [eE hi];exact List.getElem_mem hi
  generalize (ie (A.getD K default).ak (B.getD K default).ak).getD i default=x at ob ⊢
  unfold ie at ob
  obtain ⟨v,hv,rfl⟩:=List.mem_map.1 ob
  obtain ⟨v1,v2⟩:=List.mem_filter.1 hv
  refine ⟨?_,v2⟩
  unfold l0
  exact List.any_eq_true.2 ⟨v,v1,by simp⟩
 have MC:∀i j,j<i->i<(ie (A.getD K default).ak (B.getD K default).ak).length->xT ((ie (A.getD K default).ak (B.getD K default).ak).getD i default) ((ie (A.getD K default).ak (B.getD K default).ak).getD j default)=false:=fun i j G_ hi=>by
  rw [eE hi,eE (l:=ie (A.getD K default).ak (B.getD K default).ak) (i:=j) ag]
  exact List.pairwise_iff_getElem.1 f2 j i ag hi G_
 have Un:=Cr (A.getD K default).ak (B.getD K default).ak
 clear f2 Vh
 obtain ⟨L,hL⟩:∃L,L=ie (A.getD K default).ak (B.getD K default).ak:=⟨_,rfl⟩
 rw [←hL] at JM f1 fin MC Un
 have hE:(ae au L).length=L.length:=by rw [aA (e:=1) (fun _=>rfl)];omega
 have OK:0<L.length:=by cases L with|nil=>exact absurd rfl f1|cons _ _=>exact Nat.succ_pos _
 clear hL f1
 refine zP 1 [yH [(0,yC hm),(3,yD JM)]] [.aa [12,11,10,9,8,7,6,0,1,2] [2032,7]] [yI hm,yI JM]<|zS<|zP 1 [yH ([(6,{k:=c.log.length,g:=false}),(8,{b:=false}),(12,{k:=A.length,g:=false}),(14,{b:=false}),(18,{k:=B.length,g:=false}),(20,{b:=false})]++yg [3,4,5,7,10,11,13,16,17,19])] [.aa [56,12,11,10,9,8,7,6,0,1,2] [2032,7]] (yM 4 (yR false)++ [yB ((ae aG c.log).length=c.log.length*17) (by simp only [aA (f:=aG) (e:=17) (fun _=>rfl)]),yR false,yR false]++yM 3 (yF ((↑K:Int)<(↑c.log.length:Int)))++ [yB ((ae aG A).length=A.length*17) (by simp only [aA (f:=aG) (e:=17) (fun _=>rfl)])]++yM 2 (yF ((↑K:Int)<(↑c.log.length:Int)))++yM 3 (yF ((↑K:Int)>(↑A.length:Int)))++ [yB ((ae aG B).length=B.length*17) (by simp only [aA (f:=aG) (e:=17) (fun _=>rfl)])]++yM 2 (yF ((↑K:Int)>(↑A.length:Int))))<|dm 56 ((↑K:Int)>(↑B.length:Int))<|a6<|zS<|zP 1 [yH ([(2,{k:=A.length}),(7,{k:=B.length,g:=false}),(9,{b:=false})]++yg [5,6,8])] [.aa [66,56,12,11,10,9,8,7,6,0,1,2] [2032,7]] ([yB ((ae aG A).length=A.length*17) (by simp only [aA (f:=aG) (e:=17) (fun _=>rfl)])]++yM 3 (yB (((↑K:Int) == (↑A.length:Int))=false) bx)++ [yB ((ae aG B).length=B.length*17) (by simp only [aA (f:=aG) (e:=17) (fun _=>rfl)])]++yM 2 (yB (((↑K:Int) == (↑A.length:Int))=false) bx))<|bj 66 ((↑K:Int) == (↑B.length:Int)) bx<|a6<|zS<|zq<|zB 0 (zL (fun (i:Nat)=>(⟨[(66,ao ((↑K:Int) == (↑B.length:Int))),(56,ao (decide ((↑K:Int)>(↑B.length:Int)))),(12,ai 0),(11,AV.ref 2032),(10,ai ↑K),(9,AV.sl 17 (ae aG B)),(8,AV.sl 17 (ae aG A)),(7,AV.addr 7 0),(0,AV.sl 1 (ax n)),(1,AV.sl 1 (ax left)),(2,AV.sl 1 (ax right)),(13,ai i)],[(2032,⟨1,true,false,ae au L⟩),(7,⟨1,false,true,[ai c.b7.aC,aw c.b7.head,ai c.b7.bm,AV.sl 4 (ae aN c.b7.aq),AV.sl 7 (ae bk c.b7.aR),AV.sl 17 (ae aG c.log),ai (c.nx 0),ai (c.nx 1),ai (c.nx 2),ai (c.nx 3),ai (c.nx 4),ai (c.nx 5),ai (c.nx 6),ai (c.nx 7),ai (c.nx 8),ai (c.nx 9)]⟩)]⟩:AS)) (fun i=>(i≤L.length)) (fun i=>(L.length-i)) (0) ?_ (zW [.aa [66,56,12,11,10,9,8,7,0,1,2,13] [2032,7]]) ?_)
 ·omega
 intro i hi
 refine zS<|zP 1 [yH [(2,{k:=(ae au L).length})]] [.aa [76,66,56,12,11,10,9,8,7,0,1,2,13] [2032,7]] [yR ((ae au L).length)] (zD 76 ((↑i:Int)<(↑(ae au L).length:Int)) (fun q=>?_) (fun q=>?_))
 ·have dc:i<L.length:=ag
  have cZ:=iZ dc
  obtain ⟨f3,f4⟩:=fin i dc
  have s1:=xF (A.getD K default) (L.getD i default) ha va f3 ag
  have s2:=xF (B.getD K default) (L.getD i default) hb vb f4 ag
  by_cases c6:0<i
  ·obtain ⟨j,hj⟩:∃j,j+1=i:=⟨i-1,ag⟩
   have Wu:=iZ (l:=L) (i:=j) ag
   have c9:=MC i j ag dc
   clear fin MC va vb
   refine a6<|zS<|zB 1<|zP 1 [{hs:=[(5,{k:=i}),(6,yV (di (L.getD i default))),(9,yV (ai ↑j)),(10,{k:=j}),(11,yV (di (L.getD j default))),(15,{g:=false}),(16,{g:=false}),(17,{k:=K,g:=false}),(18,{av:=some (AV.agg (aG (A.getD K default))),g:=false}),(19,{g:=false}),(20,{g:=false}),(21,{k:=i,g:=false}),(22,{av:=some (di (L.getD i default)),g:=false}),(23,{av:=some (ao true),g:=false}),(24,{g:=false}),(25,{b:=false}),(27,{g:=false}),(28,{g:=false}),(29,{k:=K,g:=false}),(30,{av:=some (AV.agg (aG (B.getD K default))),g:=false}),(31,{g:=false}),(32,{g:=false}),(33,{k:=i,g:=false}),(34,{av:=some (di (L.getD i default)),g:=false}),(35,{av:=some (ao true),g:=false}),(36,{g:=false}),(37,{b:=false})],T:=35}] [.aa [116,76,66,56,12,11,10,9,8,7,0,1,2,13] [2032,7]] (yM 3 (yT ((↑i:Int)>0))++ [yR (↑i:Int),yO (i<(ae au L).length),yT ((↑i:Int)>0),yI cZ]++yM 3 (yT ((↑i:Int)>0))++ [yB (ai (IntKind.i64.wrap ((↑i:Int)-1))=ai ↑j) (congrArg (fun n=>AV.val (.int .i64 n)) (by rw [IntKind.wrap_i64];omega)),yT ((↑i:Int)>0),yR (↑j:Int),yO (j<(ae au L).length),yT ((↑i:Int)>0),yI Wu]++yM 2 (yT ((↑i:Int)>0))++yM 3 (yB ((Op.bytesLess (ByteArray.mk (L.getD i default).toArray).toList (ByteArray.mk (L.getD j default).toArray).toList || (ByteArray.mk (L.getD i default).toArray).toList == (ByteArray.mk (L.getD j default).toArray).toList)=false) (by assumption))++ [yR (↑K:Int),yB (K*17<(ae aG A).length) (by simp only [aA (f:=aG) (e:=17) (fun _=>rfl)];omega),yB ((Op.bytesLess (ByteArray.mk (L.getD i default).toArray).toList (ByteArray.mk (L.getD j default).toArray).toList || (ByteArray.mk (L.getD i default).toArray).toList == (ByteArray.mk (L.getD j default).toArray).toList)=false) (by assumption),yB (List.take 17 (List.drop (K*17) (ae aG A))=(aG (A.getD K default))) (by assumption),yR 17]++yM 3 (yB ((Op.bytesLess (ByteArray.mk (L.getD i default).toArray).toList (ByteArray.mk (L.getD j default).toArray).toList || (ByteArray.mk (L.getD i default).toArray).toList == (ByteArray.mk (L.getD j default).toArray).toList)=false) (by assumption))++ [yR (↑i:Int),yO (i<(ae au L).length),yB ((Op.bytesLess (ByteArray.mk (L.getD i default).toArray).toList (ByteArray.mk (L.getD j default).toArray).toList || (ByteArray.mk (L.getD i default).toArray).toList == (ByteArray.mk (L.getD j default).toArray).toList)=false) (by assumption),yI cZ,yB ((Op.bytesLess (ByteArray.mk (L.getD i default).toArray).toList (ByteArray.mk (L.getD j default).toArray).toList || (ByteArray.mk (L.getD i default).toArray).toList == (ByteArray.mk (L.getD j default).toArray).toList)=false) (by assumption),yI s1]++yM 2 (yB ((Op.bytesLess (ByteArray.mk (L.getD i default).toArray).toList (ByteArray.mk (L.getD j default).toArray).toList || (ByteArray.mk (L.getD i default).toArray).toList == (ByteArray.mk (L.getD j default).toArray).toList)=false) (by assumption))++yM 3 (yR false)++ [yR (↑K:Int),yB (K*17<(ae aG B).length) (by simp only [aA (f:=aG) (e:=17) (fun _=>rfl)];omega),yR false,yu aG B K 0 17,yR 17]++yM 3 (yR false)++ [yR (↑i:Int),yO (i<(ae au L).length),yR false,yI cZ,yR false,yI s2,yR false,yR false])<|zF 116<|zK<|aK<|al<|zX (yH [(1,yV (ai ((↑i:Int)+1)))]) [yN ((↑i:Int)+1)] (aF (i+1) (by assumption) ag (zW [.aa [66,56,12,11,10,9,8,7,0,1,2,13] [2032,7]]))
  ·clear fin MC va vb
   refine a6<|zS<|zB 1<|zP 1 [{hs:=[(3,{g:=false}),(4,{g:=false}),(5,{g:=false}),(6,{g:=false}),(7,{g:=false}),(8,{g:=false}),(9,{g:=false}),(10,{g:=false}),(11,{g:=false}),(12,{g:=false}),(13,{b:=false}),(15,{g:=false}),(16,{g:=false}),(17,{k:=K,g:=false}),(18,{av:=some (AV.agg (aG (A.getD K default))),g:=false}),(19,{g:=false}),(20,{g:=false}),(21,{k:=i,g:=false}),(22,{av:=some (di (L.getD i default)),g:=false}),(23,{av:=some (ao true),g:=false}),(24,{g:=false}),(25,{b:=false}),(27,{g:=false}),(28,{g:=false}),(29,{k:=K,g:=false}),(30,{av:=some (AV.agg (aG (B.getD K default))),g:=false}),(31,{g:=false}),(32,{g:=false}),(33,{k:=i,g:=false}),(34,{av:=some (di (L.getD i default)),g:=false}),(35,{av:=some (ao true),g:=false}),(36,{g:=false}),(37,{b:=false})],T:=35}] [.aa [116,76,66,56,12,11,10,9,8,7,0,1,2,13] [2032,7]] (yM 11 (yF ((↑i:Int)>0))++yM 3 (yR false)++ [yR (↑K:Int),yB (K*17<(ae aG A).length) (by simp only [aA (f:=aG) (e:=17) (fun _=>rfl)];omega),yR false,yu aG A K 0 17,yR 17]++yM 3 (yR false)++ [yR (↑i:Int),yO (i<(ae au L).length),yR false,yI cZ,yR false,yI s1]++yM 5 (yR false)++ [yR (↑K:Int),yB (K*17<(ae aG B).length) (by simp only [aA (f:=aG) (e:=17) (fun _=>rfl)];omega),yR false,yu aG B K 0 17,yR 17]++yM 3 (yR false)++ [yR (↑i:Int),yO (i<(ae au L).length),yR false,yI cZ,yR false,yI s2,yR false,yR false])<|zF 116<|zK<|aK<|al<|zX (yH [(1,yV (ai ((↑i:Int)+1)))]) [yN ((↑i:Int)+1)] (aF (i+1) (by assumption) ag (zW [.aa [66,56,12,11,10,9,8,7,0,1,2,13] [2032,7]]))
 ·have ei:i=L.length:=ag
  subst ei
  refine zE 0<|a7<|aP<|bp<|al<|zP 1 [yH [(1,{k:=(ae au L).length}),(4,yC Qd)]] [.aa [6,76,66,56,12,11,10,9,8,7,0,1,2,13] [2032,7]] [yR ((ae au L).length),yT ((↑(ae au L).length:Int)>0),yI Qd,yT ((↑(ae au L).length:Int)>0)]<|zR (bL)
end Go.Proofs.YtjgbhhnghedgdaaGreatDoor
