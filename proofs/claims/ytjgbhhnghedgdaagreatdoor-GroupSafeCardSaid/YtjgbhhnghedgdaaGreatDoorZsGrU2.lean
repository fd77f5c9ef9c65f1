import Derived.Test.YtjgbhhnghedgdaaGreatDoorZsGrQ
set_option linter.all false
namespace Go.Proofs.YtjgbhhnghedgdaaGreatDoor
open Go.RowKit
set_option maxRecDepth 100000
set_option maxHeartbeats 4000000
theorem G8:gO (dq 0)=0:=by
 rw [OO]
 unfold gO
 rw [if_neg (by simp [OL]),if_neg (by decide),if_neg (by simp)]
structure Lg (l:List Int) (i:Nat) (g:fL) (k:Nat):Prop where
 T2:i≤14
 b:oZ g
 h:C3 g
 s:CZ g
 k:k≤l.length
theorem Lg.next {l:List Int} {i:Nat} {g:fL} {k:Nat} (h:Lg l i g k) (c:i<14) (e:eK) (k2:Nat) (hk:k2≤l.length) (hB:ob e):Lg l (i+1) (jL g e) k2:=by
 refine ⟨c,Le e h.b,h.h.VG hB.dep.HP,?_,hk⟩
 by_cases q:gG g e=0
 ·exact Jc h.s q
 ·rw [qc q];exact h.s
theorem vq (n:List Int) (_:∀x∈n,Hx x):bK Tryz.prog 8 [.sl 1 (ax n)] (ao true):=by
 refine bK.len 0 rfl fun hl=>?_
 rw [kb] at hl
 have hl:n.length≤9223372036854775807:=ah
 have Tx:=AX
 have hm:=fy 0 ah
 have RL:=Aq (dq 0) (Nat.le_of_ble_eq_true rfl)
 have ne:=G8
 obtain ⟨Vn,M9⟩:=Mw ne
 have Jv:=Mv ne
 rw [ne] at RL
 have Aj:=FH
 unfold Nv at Aj
 clear ne
 generalize cO (dq 0)=G0 at *
 generalize dq 0=m0 at *
 refine zO Tryz.func8 137<|zP 4 [{},yH [(1,{av:=some (AV.box [AV.sl 1 (ax n),ai (↑(0:Nat):Int)]),b:=false})],yH [(0,{av:=some (AV.agg [ai G0.aC,aw G0.head,ai G0.bB,AV.sl 4 (af aP G0.al),AV.sl 7 (af bg G0.aF),AV.sl 17 (af bk []),ai 0,ai 0,ai 0,ai 0,ai 0,ai 0,ai 0,ai 0,ai 0,ai 0]),b:=false})],yH [(0,yV (AV.agg (aP m0))),(1,{av:=some (AV.br [AV.agg [ai G0.aC,aw G0.head,ai G0.bB,AV.own 4 (af aP G0.al),AV.own 7 (af bg G0.aF)],ai 0]),b:=false})]] [.aa [6,5,4,3,2,0] [5,501021,401021,4,17]] [yI (Ka n),yI Aj,yL 16 16,yI hm,yI RL,yL 5 5]<|zS<|zq<|zF 25<|a8<|zS<|zq<|zB 0<|a7.su [.iR 401021,.iR 501021] bH (zL (fun (x:Nat×fL×(Nat->Int)×Nat)=>(⟨[(25,ao ((0:Int) != (0:Int))),(6,ai 0),(5,AV.addr 5 0),(4,AV.addr 4 0),(3,AV.addr 17 0),(0,AV.sl 1 (ax n)),(7,ai x.1)],[(17,⟨1,false,true,[.sl 1 (ax n),ai x.2.2.2]⟩),(4,⟨1,false,true,p9 ⟨x.2.1,[],x.2.2.1⟩⟩),(5,⟨1,false,true,bW x.2.1⟩)]⟩:AS)) (fun x=>(Lg n x.1 x.2.1 x.2.2.2)) (fun x=>(14-x.1)) ((0,G0,(fun _=>0),0)) ?_ (zW [.aa [25,6,5,4,3,0,7] [17,4,5]]) ?_)
 ·exact ⟨ah,Vn,M9,Jv,Nat.zero_le _⟩
 clear Aj RL hm
 rintro ⟨i,g,f,k⟩ hI
 simp only at hI
 have hk:=hI.k
 have hB:=hI.b
 have hi:=hI.T2
 have N0:=EX n k hk hl
 by_cases c1:i<14
 case neg =>
  have ei:i=14:=ah
  subst ei
  refine zS<|zP 1 [yH ([(5,{b:=false})]++yg [3,4])] [.aa [31,25,6,5,4,3,0,7] [17,4,5]] (yM 3 (yR false))<|zF 31<|zE 0<|aY<|aN<|bm<|ak<|zQ 1 [yH [(0,yV (ao true))]] [yI Tx]<|zR (cE)
 by_cases c2:k<n.length
 case neg =>
  rw [decide_eq_false c2] at N0
  refine zS<|zP 1 [yH [(4,{av:=some (ao false),ln:=[(17,1000000000000)],ho:=[(1000000000000,Row.mk 1 false true [AV.sl 1 (ax n),ai ↑k])]})]] [.aa [31,25,6,5,4,3,0,7] [17,4,5]] (yM 2 (yT ((↑i:Int)<14))++ [yI N0,yB ([AV.sl 1 (ax n),ai ↑k].length= [AV.sl 1 (ax n),ai ↑k].length∧0< [AV.sl 1 (ax n),ai ↑k].length) ⟨rfl,Nat.succ_pos _⟩,yT ((↑i:Int)<14)])<|zF 31<|zE 0<|aY<|aN<|bm<|ak<|zQ 1 [yH [(0,yV (ao true))]] [yI Tx]<|zR (cE)
 rw [decide_eq_true c2] at N0
 have N1:=cY n k 10 hk hl (by decide) (by decide)
 have b1:=ll n k (n:=10) (by decide)
 have a1:=dj hk
 have hq:=BB ⟨g,[],f⟩ (gC n k 10) ah hB.m8
 have hw:=J3 ⟨g,[],f⟩ (gC n k 10)
 generalize GR ⟨g,[],f⟩ (gC n k 10)=di at *
 generalize gC n k 10=y1 at *
 generalize dv n k=k1 at *
 have N2:=cY n k1 4 a1 hl (by decide) (by decide)
 have a2:=dj a1
 generalize gC n k1 4=y2 at *
 generalize dv n k1=k2 at *
 refine zS<|zP 1 [yH [(4,{av:=some (ao true),ln:=[(17,1000000000000)],ho:=[(1000000000000,Row.mk 1 false true [AV.sl 1 (ax n),ai ↑k])]})]] [.aa [31,25,6,5,4,3,0,7] [17,4,5]] (yM 2 (yT ((↑i:Int)<14))++ [yI N0,yB ([AV.sl 1 (ax n),ai ↑k].length= [AV.sl 1 (ax n),ai ↑k].length∧0< [AV.sl 1 (ax n),ai ↑k].length) ⟨rfl,Nat.succ_pos _⟩,yT ((↑i:Int)<14)])<|zT 31<|a8<|zS<|zB 1<|zS<|FM 3 [2] [(2,{av:=some (ai ↑y1),ln:=[(17,1000000000000)],ho:=[(1000000000000,Row.mk 1 false true [AV.sl 1 (ax n),ai ↑k1])]}),(3,yV (ai ↑di))] [yI N1,yB ([AV.sl 1 (ax n),ai ↑k].length= [AV.sl 1 (ax n),ai ↑k1].length∧0< [AV.sl 1 (ax n),ai ↑k1].length) ⟨rfl,Nat.succ_pos _⟩,yR (AV.agg [ai g.aC,aw g.head,ai g.bB,AV.sl 4 (af aP g.al),AV.sl 7 (af bg g.aF),AV.sl 17 (af bk []),ai (f 0),ai (f 1),ai (f 2),ai (f 3),ai (f 4),ai (f 5),ai (f 6),ai (f 7),ai (f 8),ai (f 9)]),yI hq]<|ak<|a7.su [.aa [8,31,25,6,5,4,3,0,7] [17,4,5]] bH<|zP 1 [{}] [.aa [9,8,31,25,6,5,4,3,0,7] [9,17,4,5]] [yL 16 16] (a7.pE (fun (p:Nat->Int)=>(⟨[(9,AV.addr 9 0),(8,ai ↑di),(31,ao true),(25,ao ((0:Int) != (0:Int))),(6,ai 0),(5,AV.addr 5 0),(4,AV.addr 4 0),(3,AV.addr 17 0),(0,AV.sl 1 (ax n)),(7,ai ↑i)],[(5,⟨1,false,true,List.map (aQ 9) (bW g)⟩),(4,⟨1,false,true,List.map (aQ 9) (p9 (A7.mk g [] f))⟩),(9,⟨1,false,true,p9 ⟨g,[],p⟩⟩),(17,⟨1,false,true,[.sl 1 (ax n),ai k2]⟩)]⟩:AS)) (fun p=>(True)) bH ?_ ?_)
 ·by_cases e3:y2=3
  ·skip
   refine zP 1 [yH [(1,{av:=some (ai ↑y2),ln:=[(17,1000000000000)],ho:=[(1000000000000,Row.mk 1 false true [AV.sl 1 (ax n),ai ↑k2])]}),(2,yV (ao true))]] [.aa [41,9,8,31,25,6,5,4,3,0,7] [17,9,4,5]] [yI N2,yB ([AV.sl 1 (ax n),ai ↑k1].length= [AV.sl 1 (ax n),ai ↑k2].length∧0< [AV.sl 1 (ax n),ai ↑k2].length) (by simp [e3]),yB (ao ((↑y2:Int) == (3:Int))=ao true) (by simp [e3])]<|zT 41<|zX {} [yL 16 16]<|ak (⟨(fun _=>0),trivial,(zW [.aa [9,8,31,25,6,5,4,3,0,7] [5,4,9,17]])⟩)
  ·skip
   refine zP 1 [yH [(1,{av:=some (ai ↑y2),ln:=[(17,1000000000000)],ho:=[(1000000000000,Row.mk 1 false true [AV.sl 1 (ax n),ai ↑k2])]}),(2,yV (ao false))]] [.aa [41,9,8,31,25,6,5,4,3,0,7] [17,9,4,5]] [yI N2,yB ([AV.sl 1 (ax n),ai ↑k1].length= [AV.sl 1 (ax n),ai ↑k2].length∧0< [AV.sl 1 (ax n),ai ↑k2].length) ⟨rfl,Nat.succ_pos _⟩,yB (ao ((↑y2:Int) == (3:Int))=ao false) (by simp;omega)]<|zF 41<|a8 (⟨f,trivial,(zW [.aa [9,8,31,25,6,5,4,3,0,7] [5,4,9,17]])⟩)
 rintro p -
 have N3:=Cy n k2 g a2 hl hB
 obtain ⟨d1,d2,d3⟩:=Np n g k2 a2 hB.m8
 generalize KW n g k2=E at *
 obtain ⟨E,k3⟩:=E
 simp only at N3 d1 d2 d3
 have Qk:=Bl (fun e he=>zk e he) ⟨g,[],p⟩ E di hw d1 (by rw [d2];exact Nat.zero_le _)
 have Qm:=Bn d1 p di 10
 simp only at Qk
 generalize bF E p di 10=S at *
 obtain ⟨e,nx⟩:=S
 simp only at Qk Qm
 have Uc:e.ar.length≤10:=by have:=Qm.2;rw [d2] at this;simpa using this
 have LM:=nT g e hB Qm.1 ah
 have LN:=hI.next c1 e k3 d3 Qm.1
 unfold Ec at N3
 clear N0 N1 N2
 by_cases c3:gG g e=0
 case neg =>
  rw [qc c3] at LM LN
  have Qj:=Gw g hB hI.h
  refine zS<|QO 12 9 [4] [10,11] [(4,{av:=some (AV.agg (bk E)),ln:=[(17,1000000000000)],ho:=[(1000000000000,Row.mk 1 false true [AV.sl 1 (ax n),ai ↑k3])]}),(6,{av:=some (AV.br [AV.agg (bk e),AV.arr (u6 nx)]),b:=false})] [yI N3,yB ([AV.sl 1 (ax n),ai ↑k2].length= [AV.sl 1 (ax n),ai ↑k3].length∧0< [AV.sl 1 (ax n),ai ↑k3].length) (by simp [c3]),yR (AV.agg [ai g.aC,aw g.head,ai g.bB,AV.sl 4 (af aP g.al),AV.sl 7 (af bg g.aF),AV.sl 17 (af bk []),ai (p 0),ai (p 1),ai (p 2),ai (p 3),ai (p 4),ai (p 5),ai (p 6),ai (p 7),ai (p 8),ai (p 9)]),yR (ai ↑di),yI Qk,yL 17 17,yL 17 17,yL 10 10]<|ak<|a7.su [.aa [11,10,9,8,31,25,6,5,4,3,0,7] [11,10,17,5,4,9]] bH<|zP 2 [yH [(2,{av:=some (AV.br [AV.agg (bW g),ai (gG g e)]),b:=false})],yH [(2,{k:=g.al.length})]] [.aa [14,13,12,11,10,9,8,31,25,6,5,4,3,0,7] [12,11,10,17,5,4,9]] [yI LM,yL 5 5,yB ((af aP g.al).length=g.al.length*4) (by simp only [aG (f:=aP) (e:=4) (fun _=>rfl)])]<|zS<|zQ 1 [yH [(1,yV (ao true))]] [yB (ao (gG g e != (0:Int))=ao true) (by simp [c3])]<|zT 64<|zS<|zP 1 [yH [(2,yV (ao true)),(3,yV (ao false))]] [.aa [68,64,14,13,12,11,10,9,8,31,25,6,5,4,3,0,7] [12,11,10,17,5,4,9]] [yI Qj,yR (ao false)]<|zF 68<|a8<|zE 1<|aY<|bm<|ak<|zX (yH [(1,yV (ai ((↑i:Int)+1)))]) [yN ((↑i:Int)+1)] (aI (i+1,g,f,k3) LN ah (zW [.aa [25,6,5,4,3,0,7] [17,4,5]]))
 have Ux:=LN.s.T1
 have MI:=LN.s.pos
 have RT:(jL g e).aC=g.aC+1:=by rw [nU c3];exact (je c3).2.1
 have UY:=AQ g (jL g e) e (Nt hI.s c3) (by have:=hB.m8;omega) (by have:=LN.b.m8;omega) ah
 have UR:=fun j hj=>K3 c3 (j:=j) hj
 rw [c3] at LM
 generalize jL g e=h at *
 have Rc:IntKind.i64.wrap (g.aC+1)=g.aC+1:=by have:=hB.Vz;have:=hB.Su;rw [IntKind.wrap_i64];omega
 have Rd:IntKind.i64.wrap (2*h.bB)=2*h.bB:=by have:=LN.b.t0;have:=LN.b.t1;rw [IntKind.wrap_i64];omega
 have Sw:(h.aC != g.aC+1)=false:=by rw [RT];simp
 refine zS<|QO 12 9 [4] [10,11] [(4,{av:=some (AV.agg (bk E)),ln:=[(17,1000000000000)],ho:=[(1000000000000,Row.mk 1 false true [AV.sl 1 (ax n),ai ↑k3])]}),(6,{av:=some (AV.br [AV.agg (bk e),AV.arr (u6 nx)]),b:=false})] [yI N3,yB ([AV.sl 1 (ax n),ai ↑k2].length= [AV.sl 1 (ax n),ai ↑k3].length∧0< [AV.sl 1 (ax n),ai ↑k3].length) ⟨rfl,Nat.succ_pos _⟩,yR (AV.agg [ai g.aC,aw g.head,ai g.bB,AV.sl 4 (af aP g.al),AV.sl 7 (af bg g.aF),AV.sl 17 (af bk []),ai (p 0),ai (p 1),ai (p 2),ai (p 3),ai (p 4),ai (p 5),ai (p 6),ai (p 7),ai (p 8),ai (p 9)]),yR (ai ↑di),yI Qk,yL 17 17,yL 17 17,yL 10 10]<|ak<|a7.su [.aa [11,10,9,8,31,25,6,5,4,3,0,7] [11,10,17,5,4,9]] bH<|zP 2 [yH [(2,{av:=some (AV.br [AV.agg (bW h),ai 0]),b:=false})],yH [(2,{k:=h.al.length})]] [.aa [14,13,12,11,10,9,8,31,25,6,5,4,3,0,7] [12,11,10,17,5,4,9]] [yI LM,yL 5 5,yB ((af aP h.al).length=h.al.length*4) (by simp only [aG (f:=aP) (e:=4) (fun _=>rfl)])]<|zS<|zq<|zF 64<|a8<|zS<|zP 1 [yH ([(2,yV (ai ((2:Int)*h.bB))),(10,{b:=false}),(16,{av:=some (ai (g.aC+1)),g:=false}),(18,{b:=false}),(23,{av:=some (ao true),g:=false}),(25,{b:=false})]++yg [6,7,8,9,12,13,14,15,17,20,21,22,24])] [.aa [94,64,14,13,12,11,10,9,8,31,25,6,5,4,3,0,7] [12,11,10,17,5,4,9]] ([yI (yc Rd)]++yM 5 (yF ((2:Int)*h.bB≤(↑h.al.length:Int)))++yM 5 (yF (h.bB>(↑h.al.length:Int)))++ [yI (yc Rc)]++yM 2 (yF (h.bB>(↑h.al.length:Int)))++yM 4 (yI Sw)++ [yI UY,yI Sw,yI Sw])<|zF 94<|a8<|zS<|zq<|zB 2 ?_
 have Wa:=hB.d8
 have HY:(af bg g.aF).length=g.aF.length*7:=aG (e:=7) (fun _=>rfl) ..
 have LI:(af bg h.aF).length=h.aF.length*7:=aG (e:=7) (fun _=>rfl) ..
 refine zL (fun (j:Nat)=>(⟨[(94,ao (!true)),(64,ao ((0:Int) != (0:Int))),(14,ai (↑h.al.length:Int)),(13,ai 0),(12,AV.addr 12 0),(11,AV.addr 11 0),(10,AV.addr 10 0),(9,AV.addr 9 0),(8,ai ↑di),(31,ao true),(25,ao ((0:Int) != (0:Int))),(6,ai 0),(5,AV.addr 5 0),(4,AV.addr 4 0),(3,AV.addr 17 0),(0,AV.sl 1 (ax n)),(7,ai ↑i),(15,ai j)],[(9,⟨1,false,true,List.map (aQ 12) (p9 (A7.mk g [] p))⟩),(4,⟨1,false,true,List.map (aQ 12) (List.map (aQ 9) (p9 (A7.mk g [] f)))⟩),(17,⟨1,false,true,[AV.sl 1 (ax n),ai ↑k3]⟩),(5,⟨1,false,true,bW g⟩),(10,⟨1,false,true,bk e⟩),(11,⟨1,false,true,u6 nx⟩),(12,⟨1,false,true,bW h⟩)]⟩:AS)) (fun j=>(j≤g.aF.length)) (fun j=>(g.aF.length-j)) (0) ?_ (zW [.aa [94,64,14,13,12,11,10,9,8,31,25,6,5,4,3,0,7,15] [9,4,17,5,10,11,12]]) ?_
 ·omega
 intro j hj
 refine zS<|zP 1 [yH [(3,{k:=g.aF.length})]] [.aa [99,94,64,14,13,12,11,10,9,8,31,25,6,5,4,3,0,7,15] [9,4,17,5,10,11,12]] [yI HY] (zD 99 ((↑j:Int)<(↑g.aF.length:Int)) (fun q=>?_) (fun q=>?_))
 ·have sJ:j<g.aF.length:=ah
  obtain ⟨d4,d5⟩:=UR j sJ
  by_cases e0:(g.aF.getD j default).target=0
  ·skip
   refine a8<|zS<|zB 3<|zP 1 [{hs:=[(3,{k:=h.aF.length}),(6,{g:=false}),(7,{g:=false}),(8,{g:=false}),(9,{k:=j,g:=false}),(10,{g:=false}),(11,{av:=some (aw ((g.aF.getD j default).target)),g:=false}),(12,{av:=some (ao ((g.aF.getD j default).target != 0)),g:=false}),(13,{g:=false}),(14,{g:=false}),(15,{g:=false}),(16,{g:=false}),(17,{g:=false}),(18,{g:=false}),(19,{g:=false}),(20,{g:=false}),(21,{g:=false}),(22,{g:=false}),(23,{g:=false}),(24,{g:=false}),(25,{g:=false}),(26,{g:=false}),(27,{b:=false,g:=false}),(28,{b:=false})],T:=26}] [.aa [130,99,94,64,14,13,12,11,10,9,8,31,25,6,5,4,3,0,7,15] [9,4,17,5,10,11,12]] ([yI LI]++yM 4 (yF ((↑j:Int)≥(↑h.aF.length:Int)))++ [yR (↑j:Int),yO (j*7<(af bg g.aF).length)]++yM 2 (yF ((↑j:Int)≥(↑h.aF.length:Int)))++ [yA bg g.aF j 6,yF ((↑j:Int)≥(↑h.aF.length:Int)),yI (cU ((g.aF.getD j default).target) 0),yF ((↑j:Int)≥(↑h.aF.length:Int))]++yM 13 (yS (((g.aF.getD j default).target != 0)=false))++ [yF ((↑j:Int)≥(↑h.aF.length:Int)),yS (((g.aF.getD j default).target != 0)=false),yF ((↑j:Int)≥(↑h.aF.length:Int))])<|zF 130<|zK<|aM<|ak<|zX (yH [(1,yV (ai ((↑j:Int)+1)))]) [yN ((↑j:Int)+1)] (aI (j+1) (by assumption) ah (zW [.aa [94,64,14,13,12,11,10,9,8,31,25,6,5,4,3,0,7,15] [9,4,17,5,10,11,12]]))
  ·have e1:(h.aF.getD j default).target=(g.aF.getD j default).target:=d5.resolve_left e0
   refine a8<|zS<|zB 3<|zP 1 [{hs:=[(3,{k:=h.aF.length}),(6,{g:=false}),(7,{g:=false}),(8,{g:=false}),(9,{k:=j,g:=false}),(10,{g:=false}),(11,{av:=some (aw ((g.aF.getD j default).target)),g:=false}),(12,{av:=some (ao ((g.aF.getD j default).target != 0)),g:=false}),(13,{g:=false}),(17,{k:=j}),(19,yV (aw ((h.aF.getD j default).target))),(23,{k:=j}),(25,yV (aw ((g.aF.getD j default).target))),(26,yV (ao ((h.aF.getD j default).target != (g.aF.getD j default).target))),(27,{g:=false}),(28,{b:=false})],T:=26}] [.aa [130,99,94,64,14,13,12,11,10,9,8,31,25,6,5,4,3,0,7,15] [9,4,17,5,10,11,12]] ([yI LI]++yM 4 (yF ((↑j:Int)≥(↑h.aF.length:Int)))++ [yR (↑j:Int),yO (j*7<(af bg g.aF).length)]++yM 2 (yF ((↑j:Int)≥(↑h.aF.length:Int)))++ [yA bg g.aF j 6,yF ((↑j:Int)≥(↑h.aF.length:Int)),yI (cU ((g.aF.getD j default).target) 0),yF ((↑j:Int)≥(↑h.aF.length:Int))]++yM 4 (yS (((g.aF.getD j default).target != 0)=true))++ [yR (↑j:Int),yS (j*7<(af bg h.aF).length)]++yM 2 (yS (((g.aF.getD j default).target != 0)=true))++ [yA bg h.aF j 6]++yM 4 (yS (((g.aF.getD j default).target != 0)=true))++ [yR (↑j:Int),yS (j*7<(af bg g.aF).length)]++yM 2 (yS (((g.aF.getD j default).target != 0)=true))++ [yA bg g.aF j 6,yS (((g.aF.getD j default).target != 0)=true),yS (ao (wv (h.aF.getD j default).target != wv (g.aF.getD j default).target)=ao ((h.aF.getD j default).target != (g.aF.getD j default).target)),yF ((↑j:Int)≥(↑h.aF.length:Int)),yS (((g.aF.getD j default).target != 0)=true),yF ((↑j:Int)≥(↑h.aF.length:Int))])<|bo 130 ((h.aF.getD j default).target != (g.aF.getD j default).target) (by simp_all)<|zK<|aM<|ak<|zX (yH [(1,yV (ai ((↑j:Int)+1)))]) [yN ((↑j:Int)+1)] (aI (j+1) (by assumption) ah (zW [.aa [94,64,14,13,12,11,10,9,8,31,25,6,5,4,3,0,7,15] [9,4,17,5,10,11,12]]))
 ·skip
  refine zE 2<|aY<|aN<|bm<|ak<|QO 5 2 [3] [] [(2,yV (AV.agg [ai (nx 0),ai (nx 1),ai (nx 2),ai (nx 3),ai (nx 4),ai (nx 5),ai (nx 6),ai (nx 7),ai (nx 8),ai (nx 9)]))] [yR (List.take 10 (List.drop 0 (u6 nx))),yR 10,yL 5 5,yR (AV.agg (bW h)),yR (AV.agg [ai (nx 0),ai (nx 1),ai (nx 2),ai (nx 3),ai (nx 4),ai (nx 5),ai (nx 6),ai (nx 7),ai (nx 8),ai (nx 9)]),yR (List.take 10 (List.drop 0 (u6 nx))),yR 10,yL 5 16,yL 5 16,yR (List.take 10 (List.drop 0 (u6 nx))),yR 10,yL 16 16]<|aM<|ak<|zX (yH [(1,yV (ai ((↑i:Int)+1)))]) [yN ((↑i:Int)+1)] (aI (i+1,h,nx,k3) LN ah (zW [.aa [25,6,5,4,3,0,7] [17,4,5]]))
end Go.Proofs.YtjgbhhnghedgdaaGreatDoor
