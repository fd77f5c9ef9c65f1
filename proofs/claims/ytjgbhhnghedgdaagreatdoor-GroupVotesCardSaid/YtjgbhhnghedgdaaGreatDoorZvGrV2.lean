import Derived.Test.YtjgbhhnghedgdaaGreatDoorZvGrE5
import Derived.Test.YtjgbhhnghedgdaaGreatDoorZvGrN0
set_option linter.all false
namespace Go.Proofs.YtjgbhhnghedgdaaGreatDoor
open Go.RowKit
set_option maxRecDepth 100000
set_option maxHeartbeats 4000000
theorem sP (e:fC) (hv:e.ak.length≤1000000) (hh:e.dep.ae.length≤1000000):bG Tryz.prog 27 [.agg (bf e),.agg (bf e)] (ao true):=by
 have l0:(af aL e.ak).length=e.ak.length*4:=aE (e:=4) (fun _=>rfl) ..
 have hs:=AX e.dep hh
 refine zO Tryz.func27 110<|zq<|zS<|zP 1 [yH [(2,{k:=e.ak.length}),(5,{k:=e.ak.length})]] [.aa [12,4,3,2,0,1] [3,2]] [yI l0,yI l0]<|bk 12 ((↑e.ak.length:Int) != (↑e.ak.length:Int)) (by simp_all)<|a_<|zS<|zq<|zB 0 (zL (fun (i:Nat)=>(⟨[(12,ao ((↑e.ak.length:Int) != (↑e.ak.length:Int))),(3,AV.addr 3 0),(2,AV.addr 2 0),(0,AV.agg (bf e)),(1,AV.agg (bf e)),(5,ai i)],[(2,⟨1,false,true,bf e⟩),(3,⟨1,false,true,bf e⟩)]⟩:AS)) (fun i=>(i≤e.ak.length)) (fun i=>(e.ak.length-i)) (0) ?_ (zW [.aa [12,3,2,0,1,5] [2,3]]) ?_)
 ·omega
 intro i hi
 refine zS<|zP 1 [yH [(3,{k:=e.ak.length})]] [.aa [17,12,3,2,0,1,5] [2,3]] [yI l0] (zD 17 ((↑i:Int)<(↑e.ak.length:Int)) (fun q=>?_) (fun q=>?_))
 ·have dI:i<e.ak.length:=ag
  have gM:=i4 dI
  have E7:=AW (e.ak.getD i default).leaf (e.ak.getD i default).leaf (e.ak.getD i default).cM (e.ak.getD i default).path (e.ak.getD i default).cM (e.ak.getD i default).path
  rw [show ((e.ak.getD i default).leaf == (e.ak.getD i default).leaf && (e.ak.getD i default).cM == (e.ak.getD i default).cM && (e.ak.getD i default).path == (e.ak.getD i default).path)=true by simp] at E7
  refine a_<|zS<|zB 1<|zP 1 [{hs:=[(3,{k:=i}),(5,yV (cV (e.ak.getD i default).name)),(9,{k:=i}),(11,yV (cV (e.ak.getD i default).name)),(12,yV (ao ((e.ak.getD i default).name != (e.ak.getD i default).name))),(14,{g:=false}),(15,{g:=false}),(16,{g:=false}),(17,{k:=i,g:=false}),(18,{g:=false}),(19,{av:=some (AV.agg [ai ((e.ak.getD i default).leaf),AV.sl 1 (ah (e.ak.getD i default).cM),AV.sl 1 (ah (e.ak.getD i default).path)]),g:=false}),(20,{g:=false}),(21,{g:=false}),(22,{g:=false}),(23,{k:=i,g:=false}),(24,{g:=false}),(25,{av:=some (AV.agg [ai ((e.ak.getD i default).leaf),AV.sl 1 (ah (e.ak.getD i default).cM),AV.sl 1 (ah (e.ak.getD i default).path)]),g:=false}),(26,{av:=some (ao true),g:=false}),(27,{g:=false}),(28,{b:=false})],T:=26}] [.aa [48,17,12,3,2,0,1,5] [2,3]] ([yR (↑i:Int),yO (i*4<(af aL e.ak).length),yA aL e.ak i 0,yR (↑i:Int),yO (i*4<(af aL e.ak).length),yA aL e.ak i 0,yI (HJ ((e.ak.getD i default).name) ((e.ak.getD i default).name))]++yM 4 (yS (((e.ak.getD i default).name != (e.ak.getD i default).name)=false))++ [yR (↑i:Int),yS (i*4<(af aL e.ak).length)]++yM 2 (yS (((e.ak.getD i default).name != (e.ak.getD i default).name)=false))++ [yu aL e.ak i 1 3,yR 3]++yM 4 (yS (((e.ak.getD i default).name != (e.ak.getD i default).name)=false))++ [yR (↑i:Int),yS (i*4<(af aL e.ak).length)]++yM 2 (yS (((e.ak.getD i default).name != (e.ak.getD i default).name)=false))++ [yu aL e.ak i 1 3,yR 3,yS (((e.ak.getD i default).name != (e.ak.getD i default).name)=false),yI E7]++yM 2 (yS (((e.ak.getD i default).name != (e.ak.getD i default).name)=false)))<|zF 48<|zK<|aJ<|al<|zX (yH [(1,yV (ai ((↑i:Int)+1)))]) [yN ((↑i:Int)+1)] (aH (i+1) (by assumption) ag (zW [.aa [12,3,2,0,1,5] [2,3]]))
 ·skip
  refine zE 0<|a6<|aM<|bm<|al<|zP 1 [yH [(10,yV (ao (e.prev == e.prev))),(24,yV (ao (e.name == e.name))),(45,yC hs),(52,yV (ao (e.bV == e.bV))),(59,yV (ao (e.target == e.target)))]] [.aa [4,17,12,3,2,0,1,5] [2,3]] (yM 5 (yB ((e.aC == e.aC)=true) eJ)++ [yI (fe e.prev e.prev),yB ((e.aC == e.aC)=true) eJ]++yM 6 (yS ((e.prev == e.prev)=true))++yM 5 (yB ((e.kind == e.kind)=true) eJ)++ [yI (fF e.name e.name),yB ((e.kind == e.kind)=true) eJ]++yM 6 (yS ((e.name == e.name)=true))++yM 6 (yS ((e.kh == e.kh && (wv e.kr == wv e.kr && true))=true))++yM 5 (yB ((e.bA == e.bA)=true) eJ)++ [yI hs,yB ((e.bA == e.bA)=true) eJ]++yM 5 (yR true)++ [yI (fe e.bV e.bV),yR true]++yM 5 (yS ((e.bV == e.bV)=true))++ [yS (ao (wv e.target == wv e.target)=ao (e.target == e.target)),yS ((e.bV == e.bV)=true)])<|zR (zV [yB (Value.bool (e.target == e.target)=Value.bool true) (by simp only [beq_self_eq_true])])
theorem yp:bG Tryz.prog 27 [.agg ij,.agg ij] (ao true) :=
 bG.ER [(9,1),(10,1),(11,1),(16,4)] (sP ⟨0,0,0,[],0,0,0,⟨0,0,[],[],[],0,0⟩,0,0,[]⟩ (Nat.zero_le _) (Nat.zero_le _))
theorem Hz {W:UInt64} {v:ic} (h:Rl W v):v.cM.length≤1000∧v.path.length≤1000:=by
 obtain ⟨j,hj,z,hz,rfl⟩:=h
 exact ⟨by rw [oH];omega,by rw [oK];omega⟩
theorem vQ (n:List Int) (dH:Int) (name:List UInt8) (seed:UInt64) (j_ leaf:Int) (_:∀x∈n,xN x) (_:xN dH) (_:PS name) (_:xN j_) (_:xN leaf):bG Tryz.prog 5 [.sl 1 (au n),ai dH,cV name,aw seed,ai j_,ai leaf] (ao true):=by
 refine bG.len 0 rfl fun hl=>?_
 rw [iT] at hl
 have hl:n.length≤9223372036854775807:=ag
 have RP:=Cl
 by_cases cn:100<name.length
 ·refine zO Tryz.func5 102<|zq<|zS<|zP 1 [yH [(1,yV (ai (↑name.length:Int)))]] [.aa [28,12,0,1,2,3,4,5] []] [yR (ai (↑name.length:Int))]<|iw 28 ((↑name.length:Int)>100)<|zQ 1 [yH [(0,yC RP)]] [yI RP]<|dC (bP)
 have hC:=OG
 have N1:=Gw n G5 0 4 ag (Nat.zero_le _) hl ⟨hC.cH,hC.Cu,Nat.zero_le _,hC.W4⟩
 obtain ⟨hB,hk⟩:=Dr n (s:=(G5,0)) hC (Nat.zero_le _) 4
 generalize dz n (G5,0) 4=s at *
 obtain ⟨c,k⟩:=s
 simp only at N1 hB hk
 have N2:=wq n k c.cH hk hl hB.cH
 obtain ⟨d1,d2,d3⟩:=DX n c.cH k hk hB.cH.m8
 generalize tO n c.cH k=E at *
 obtain ⟨E,k2⟩:=E
 simp only at N2 d1 d2 d3
 have hw:=oN dH (n:=1024) ag
 have S4:=lI dH 1024 ag ag
 generalize eT dH 1024=w at *
 have E7:=uO (fun e he=>lH e he) c E w ag d1 (by rw [d2];exact Nat.zero_le _)
 have Lu:=uP d1 c.nx w 10
 obtain ⟨-,SJ⟩:=HV d2 c.nx w 10 (Nat.le_refl _)
 rw [show E.ak.length=0 by rw [d2];rfl] at Lu
 generalize bB E c.nx w 10=S at *
 obtain ⟨e,nx⟩:=S
 simp only at E7 Lu SJ
 obtain ⟨eB,eV⟩:=Lu
 have SC:∀v∈e.ak,v.cM.length≤1000∧v.path.length≤1000:=fun v hv=>Hz (SJ v hv)
 clear SJ
 have NP:=lI leaf 10 ag ag
 have BJ:=oN leaf (n:=10) ag
 have oT:=f_ (eT leaf 10) ag
 have UR:=kz (eT leaf 10)
 have Qz:=lI leaf 17 ag ag
 unfold Aw at N1 N2
 refine zO Tryz.func5 102<|zq<|zS<|zP 1 [yH [(1,yV (ai (↑name.length:Int)))]] [.aa [28,12,0,1,2,3,4,5] []] [yR (ai (↑name.length:Int))]<|dF 28 ((↑name.length:Int)>100)<|a_<|zP 2 [yH [(1,yD (ET (n)))],yH [(1,yD x7),(2,yE [(31,1000000000000)] N1)]] [.aa [14,13,28,12,0,1,2,3,4,5] [14,31]] [yI (ET n),yI x7,yI N1,yB ([AV.sl 1 (au n),ai (↑(0:Nat):Int)].length= [AV.sl 1 (au n),ai ↑k].length∧0< [AV.sl 1 (au n),ai ↑k].length) ⟨rfl,Nat.succ_pos _⟩,yL 16 16]<|zS<|R8 13 10 [4] [11,12] [(4,yE [(31,1000000000000)] N2),(6,yC S4),(7,yD E7)] [yI N2,yB ([AV.sl 1 (au n),ai ↑k].length= [AV.sl 1 (au n),ai ↑k2].length∧0< [AV.sl 1 (au n),ai ↑k2].length) ⟨rfl,Nat.succ_pos _⟩,yR (AV.agg [ai c.cH.aC,aw c.cH.head,ai c.cH.bA,AV.sl 4 (af aT c.cH.aq),AV.sl 7 (af bj c.cH.aU),AV.sl 17 (af bf c.log),ai (c.nx 0),ai (c.nx 1),ai (c.nx 2),ai (c.nx 3),ai (c.nx 4),ai (c.nx 5),ai (c.nx 6),ai (c.nx 7),ai (c.nx 8),ai (c.nx 9)]),yR (ai dH),yI S4,yI E7,yL 17 17,yL 17 17,yL 10 10]<|al<|bg.rz [.aa [15,14,13,28,12,0,1,2,3,4,5] [15,31,14]] bu<|bg.rz [.aa [3,4,5,2,13,15] [31,15]] bu ?_
 obtain ⟨L,hL⟩:∃L:List (List UInt8),L= [name,(eK (eT leaf 10)).name]:=⟨_,rfl⟩
 have XO:L.length=2:=by rw [hL];rfl
 refine zS<|zP 1 [yH [(2,yC NP),(3,yC oT),(6,{k:=2})]] [.aa [53,52,51,3,4,5,2,13,15] [51,31,15]] [yI NP,yI oT,yR 2]<|zB 0 (zL (fun (x:Nat×Nat)=>(⟨[(52,ai (↑(2:Nat):Int)),(51,AV.ref 51),(3,aw seed),(4,ai j_),(5,ai leaf),(2,cV name),(13,AV.addr 31 0),(15,AV.addr 15 0),(53,ai x.1)],[(51,⟨1,true,true,af ay L⟩),(31,⟨1,false,true,[.sl 1 (au n),ai x.2]⟩),(15,⟨1,false,true,bf e⟩)]⟩:AS)) (fun x=>(x.1≤2∧x.2≤n.length)) (fun x=>(2-x.1)) ((0,k2)) ?_ (eS [.aa [52,51,3,4,5,2,13,15,53] [51,31,15]] [] [51] [yB ([cV name,cV (eK (eT leaf (10:Int))).name]=af ay L) (by rw [hL];rfl)]) ?_)
 ·exact ⟨ag,d3⟩
 clear N1 N2 E7 oT NP S4 d3
 rintro ⟨i,k3⟩ ⟨hi,a3⟩
 simp only at hi a3
 refine bg.mj 1 [{}] bu (s':=AS.mk [(54,ao (decide ((↑i:Int)<(↑(2:Nat):Int)))),(52,ai (↑(2:Nat):Int)),(51,AV.ref 51),(3,aw seed),(4,ai j_),(5,ai leaf),(2,cV name),(13,AV.addr 31 0),(15,AV.addr 15 0),(53,ai ↑i)] [(51,Row.mk 1 true true (af ay L)),(31,Row.mk 1 false true [AV.sl 1 (au n),ai ↑k3]),(15,Row.mk 1 false true (bf e))]) (C:=[]) bu trivial<|zS (zD 54 ((↑i:Int)<(↑(2:Nat):Int)) (fun q=>?_) (fun q=>?_))
 ·have gM:=i6 (l:=L) (i:=i) ag
  generalize L.getD i default=s at *
  obtain ⟨K,hK⟩:∃K:List Int,K= [leaf,(eT leaf 17:Int)]:=⟨_,rfl⟩
  have XP:K.length=2:=by rw [hK];rfl
  refine a_<|zS<|zB 1<|zP 2 [yH [(0,{k:=i}),(1,yV (cV s))],yH [(2,yC Qz),(3,yV (AV.arr (au [leaf,(↑(eT leaf (17:Int)):Int)]))),(4,{k:=2})]] [.aa [62,61,60,18,54,52,51,3,4,5,2,13,15,53] [60,51,31,15]] [yR (↑i:Int),yB (i<(af ay L).length) (by simp only [aE (f:=ay) (e:=1) (fun _=>rfl)];omega),yI gM,yI Qz,yR [ai leaf,ai (↑(eT leaf (17:Int)):Int)],yR 2]<|zB 2 (zL (fun (x:Nat×Nat)=>(⟨[(61,ai (↑(2:Nat):Int)),(60,AV.ref 60),(18,cV s),(54,ao (decide ((↑i:Int)<(↑(2:Nat):Int)))),(52,ai (↑(2:Nat):Int)),(51,AV.ref 51),(3,aw seed),(4,ai j_),(5,ai leaf),(2,cV name),(13,AV.addr 31 0),(15,AV.addr 15 0),(53,ai ↑i),(62,ai x.1)],[(60,⟨1,true,true,au K⟩),(31,⟨1,false,true,[.sl 1 (au n),ai x.2]⟩),(15,⟨1,false,true,bf e⟩),(51,⟨1,true,true,af ay L⟩)]⟩:AS)) (fun x=>(x.1≤2∧x.2≤n.length)) (fun x=>(2-x.1)) ((0,k3)) ?_ (eS [.aa [61,60,18,54,52,51,3,4,5,2,13,15,53,62] [60,31,15,51]] [] [60] [yB (au [leaf,(↑(eT leaf (17:Int)):Int)]=au K) (by rw [hK])]) ?_)
  ·exact ⟨ag,a3⟩
  rintro ⟨j,k4⟩ ⟨hj,a4⟩
  simp only at hj a4
  refine bg.mj 1 [{}] bu (s':=AS.mk [(63,ao (decide ((↑j:Int)<(↑(2:Nat):Int)))),(61,ai (↑(2:Nat):Int)),(60,AV.ref 60),(18,cV s),(54,ao (decide ((↑i:Int)<(↑(2:Nat):Int)))),(52,ai (↑(2:Nat):Int)),(51,AV.ref 51),(3,aw seed),(4,ai j_),(5,ai leaf),(2,cV name),(13,AV.addr 31 0),(15,AV.addr 15 0),(53,ai ↑i),(62,ai ↑j)] [(60,Row.mk 1 true true (au K)),(31,Row.mk 1 false true [AV.sl 1 (au n),ai ↑k4]),(15,Row.mk 1 false true (bf e)),(51,Row.mk 1 true true (af ay L))]) (C:=[]) bu trivial<|zS (zD 63 ((↑j:Int)<(↑(2:Nat):Int)) (fun q2=>?_) (fun q2=>?_))
  ·have tJ:(au K)[j]?=some (ai (K.getD j 0)):=k_ ag
   generalize K.getD j 0=kk at *
   have N3:=dt n k4 2 a4 hl (by decide) (by decide)
   have y3:=lp n k4 (n:=2) (by decide)
   have a5:=dS a4
   generalize ia n k4 2=y at *
   generalize eg n k4=k5 at *
   obtain ⟨H,hH⟩:∃H:Int,([ai j_,ai 4]:List AV)[y]?=some (ai H):=by
    rcases y with _|_|y
    ·exact ⟨j_,rfl⟩
    ·exact ⟨4,rfl⟩
    ·omega
   have h1:=Hy e s seed H kk eB ag SC
   have h2:=sS e s seed H kk ag (lH e eB)
   by_cases cq:iB e s H kk=0
   ·have e1:Cz e s seed H kk=JW e (lA e.ak ⟨s,np H kk,mN seed H kk (cJ e),mM seed H kk⟩):=if_pos cq
    have e2:yi e s seed H kk=bf (pc e s seed H kk):=if_pos cq
    have e3:pc e s seed H kk= {e with ak:=lA e.ak ⟨s,np H kk,mN seed H kk (cJ e),mM seed H kk⟩}:=if_neg (fun q=>q cq)
    rw [e1,cq] at h1
    rw [e2,e3,cq] at h2
    have Hk:=BA e.ak ⟨s,np H kk,mN seed H kk (cJ e),mM seed H kk⟩
    generalize lA e.ak ⟨s,np H kk,mN seed H kk (cJ e),mM seed H kk⟩=V at *
    have MC:=sP {e with ak:=V} (by show V.length≤_;omega) (by have:=eB.dep.Cu;show e.dep.ae.length≤_;omega)
    refine a_<|zS<|zB 3<|zP 5 [yH [(0,{k:=j}),(1,yV (ai kk))],yH [(1,yV (AV.arr (au [j_,(4:Int)]))),(3,yE [(31,1000000000000)] N3),(4,{k:=y}),(5,yV (ai H))],yH [(5,yD h1)],yH [(5,yD h2)],yH ([(6,{av:=some (ao true),g:=false}),(8,{b:=false})]++yg [4,5,7])] [.aa [98,25,24,23,22,21,20,63,61,60,18,54,52,51,3,4,5,2,13,15,53,62] [24,22,1701078,1201078,1101078,1001078,31,60,15,51]] ([yR (↑j:Int),yB (j<(au K).length) (by simp only [iT];omega),yI tJ,yR [ai j_,ai 4],yI N3,yB ([AV.sl 1 (au n),ai ↑k4].length= [AV.sl 1 (au n),ai ↑k5].length∧0< [AV.sl 1 (au n),ai ↑k5].length) ⟨rfl,Nat.succ_pos _⟩,yR (↑y:Int),yO (y<2),yI hH,yI h1,yL 17 17,yI h2,yL 17 17]++yM 3 (yR false)++ [yI MC,yR false,yR false])<|zF 98<|zK<|aJ<|al<|zX (yH [(0,yV (ai ((↑j:Int)+1)))]) [yN ((↑j:Int)+1)] (aH (j+1,k5) ⟨ag,a5⟩ ag (eS [.aa [61,60,18,54,52,51,3,4,5,2,13,15,53,62] [60,31,15,51]] [] [15] [yB (List.map (aF 1001078) (bE 1101078 (bE 1201078 (bE 1701078 (bE 22 (bE 24 (Row.mk 1 false true (List.map (aF 67) (List.map (aF 24) (List.map (aF 22) (List.map (aF 1001078) (bE 1101078 (bE 1201078 (bE 1701078 (Row.mk 1 false true (List.map (aF 67) (bf e)))))).cells)))))))))).cells=bf e) bu]))
   ·have e1:Cz e s seed H kk=ij:=if_neg cq
    have e2:yi e s seed H kk=ij:=if_neg cq
    rw [e1] at h1
    rw [e2] at h2
    have MC:=yp
    refine a_<|zS<|zB 3<|zP 5 [yH [(0,{k:=j}),(1,yV (ai kk))],yH [(1,yV (AV.arr (au [j_,(4:Int)]))),(3,yE [(31,1000000000000)] N3),(4,{k:=y}),(5,yV (ai H))],yH [(5,yC h1)],yH [(5,yC h1)],yH ([(6,{av:=some (ao true),g:=false}),(8,{b:=false})]++yg [4,5,7])] [.aa [98,25,24,23,22,21,20,63,61,60,18,54,52,51,3,4,5,2,13,15,53,62] [24,22,31,60,15,51]] ([yR (↑j:Int),yB (j<(au K).length) (by simp only [iT];omega),yI tJ,yR [ai j_,ai 4],yI N3,yB ([AV.sl 1 (au n),ai ↑k4].length= [AV.sl 1 (au n),ai ↑k5].length∧0< [AV.sl 1 (au n),ai ↑k5].length) ⟨rfl,Nat.succ_pos _⟩,yR (↑y:Int),yO (y<2),yI hH,yI h1,yL 17 17,yI h2,yL 17 17]++yM 3 (yS ((iB e s H kk != iB e s H kk)=false))++ [yI MC]++yM 2 (yS ((iB e s H kk != iB e s H kk)=false)))<|zF 98<|zK<|aJ<|al<|zX (yH [(0,yV (ai ((↑j:Int)+1)))]) [yN ((↑j:Int)+1)] (aH (j+1,k5) ⟨ag,a5⟩ ag (zW [.aa [61,60,18,54,52,51,3,4,5,2,13,15,53,62] [60,31,15,51]]))
  ·skip
   refine zE 2<|a6<|aM<|bm<|aJ<|al<|zX (yH [(0,yV (ai ((↑i:Int)+1)))]) [yN ((↑i:Int)+1)] (aH (i+1,k4) ⟨ag,a4⟩ ag (zW [.aa [52,51,3,4,5,2,13,15,53] [51,31,15]]))
 ·skip
  refine zE 0<|a6<|aM<|bm<|al<|zQ 1 [yH [(0,yC RP)]] [yI RP]<|zR (bP)
end Go.Proofs.YtjgbhhnghedgdaaGreatDoor
