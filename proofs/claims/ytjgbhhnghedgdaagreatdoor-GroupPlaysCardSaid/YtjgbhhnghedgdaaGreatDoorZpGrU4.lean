import Derived.Test.YtjgbhhnghedgdaaGreatDoorZpGrE2o
set_option linter.all false
namespace Go.Proofs.YtjgbhhnghedgdaaGreatDoor
open Go.RowKit
set_option maxRecDepth 100000
set_option maxHeartbeats 4000000
structure SA (l:List Int) (i:Nat) (g:gB) (k:Nat):Prop where
 VI:i≤14
 b:nI g
 h:Dn g
 k:k≤l.length
theorem JL {a b:Nat} (ha:a<1024) (hb:b<1024):IntKind.i64.wrap ((BitVec.ofInt IntKind.i64.bits (a:Int)^^^BitVec.ofInt IntKind.i64.bits (b:Int)).toNat:Nat)=((a^^^b:Nat):Int):=by
 have dd:=Nat.xor_lt_two_pow (n:=10) (x:=a) (y:=b) ha hb
 rw [BitVec.toNat_xor,BitVec.toNat_ofInt,BitVec.toNat_ofInt,show ((a:Int)%((2^IntKind.i64.bits:Nat):Int)).toNat=a by show ((a:Int)%18446744073709551616).toNat=a;omega,show ((b:Int)%((2^IntKind.i64.bits:Nat):Int)).toNat=b by show ((b:Int)%18446744073709551616).toNat=b;omega,IntKind.wrap_i64]
 omega
theorem EK {l:List gA} {k:Nat} (hk:k<l.length) (x:Int):(af aU l).set (k*4+1) (ai x)=af aU (l.set k {l.getD k default with leaf:=x}):=by
 induction l generalizing k with
 | nil=>cases hk
 | cons m l ih =>
  cases k with
  | zero=>rfl
  | succ k =>
   have:=ih (k:=k) (by simpa using hk)
   rw [show (k+1)*4+1=k*4+1+4 by omega]
   show aU m++(af aU l).set (k*4+1) (ai x)=aU m++af aU (l.set k {l.getD k default with leaf:=x})
   rw [this]
theorem uF (n:List Int) (_:∀x∈n,HJ x):bK Tryz.prog 6 [.sl 1 (ax n)] (ao true):=by
 refine bK.len 0 rfl fun hl=>?_
 rw [kf] at hl
 have hl:n.length≤9223372036854775807:=aj
 have Tu:=Bj
 have hm:=fK 0 aj
 have RH:=AM (dY 0) (Nat.le_of_ble_eq_true rfl)
 have ne:=Hm
 obtain ⟨Sf,KR⟩:=Mr ne
 rw [ne] at RH
 have AF:=FV
 unfold Nl at AF
 clear ne
 have kT:=zo _ Sf KR
 generalize da (dY 0)=G0 at *
 generalize dY 0=m0 at *
 refine zO Tryz.func6 138<|zP 4 [{},yH [(1,{av:=some (AV.box [AV.sl 1 (ax n),ai (↑(0:Nat):Int)]),b:=false})],yH [(0,{av:=some (AV.agg [ai G0.aA,aw G0.head,ai G0.bt,AV.sl 4 (af aI G0.al),AV.sl 7 (af bg G0.aJ),AV.sl 17 (af bX []),ai 0,ai 0,ai 0,ai 0,ai 0,ai 0,ai 0,ai 0,ai 0,ai 0]),b:=false})],yH [(0,yV (AV.agg (aI m0))),(1,{av:=some (AV.br [AV.agg [ai G0.aA,aw G0.head,ai G0.bt,AV.own 4 (af aI G0.al),AV.own 7 (af bg G0.aJ)],ai 0]),b:=false})]] [.aa [6,5,4,3,2,0] [5,501021,401021,4,17]] [yI (Ke n),yI AF,yL 16 16,yI hm,yI RH,yL 5 5]<|bf.rG [.gp 401021,.gp 501021] bD<|zS<|zP 1 [yH ([(6,{av:=some (ao true),g:=false}),(8,{b:=false})]++yg [3,4,5,7])] [.aa [32,6,5,4,3,2,0] [5,4,17]] (yM 4 (yR false)++ [yI kT,yR false,yR false])<|zF 32<|a7<|zS<|zq<|zB 0<|bf.rG [.aa [3,4,5,7] [17,4,5]] bD (zL (fun (x:Nat×gB×(Nat->Int)×Nat)=>(⟨[(3,AV.addr 17 0),(4,AV.addr 4 0),(5,AV.addr 5 0),(7,ai x.1)],[(17,⟨1,false,true,[.sl 1 (ax n),ai x.2.2.2]⟩),(4,⟨1,false,true,pf ⟨x.2.1,[],x.2.2.1⟩⟩),(5,⟨1,false,true,bV x.2.1⟩)]⟩:AS)) (fun x=>(SA n x.1 x.2.1 x.2.2.2)) (fun x=>(14-x.1)) ((0,G0,(fun _=>0),0)) ?_ (zW [.aa [3,4,5,7] [17,4,5]]) ?_)
 ·exact ⟨aj,Sf,KR,Nat.zero_le _⟩
 clear AF RH hm kT Sf KR
 rintro ⟨i,g,f,k⟩ hI
 simp only at hI
 obtain ⟨hi,hB,hH,hk⟩:=hI
 have N0:=E_ n k hk hl
 by_cases c1:i<14
 case neg =>
  have ei:i=14:=aj
  subst ei
  refine zS<|zP 1 [yH ([(5,{b:=false})]++yg [3,4])] [.aa [38,3,4,5,7] [17,4,5]] (yM 3 (yR false))<|zF 38<|zE 0<|a_<|aP<|bo<|ak<|zQ 1 [yH [(0,yV (ao true))]] [yI Tu]<|zR (bU)
 by_cases c2:k<n.length
 case neg =>
  rw [decide_eq_false c2] at N0
  refine zS<|zP 1 [yH [(4,{av:=some (ao false),ln:=[(17,1000000000000)],ho:=[(1000000000000,Row.mk 1 false true [AV.sl 1 (ax n),ai ↑k])]})]] [.aa [38,3,4,5,7] [17,4,5]] (yM 2 (yT ((↑i:Int)<14))++ [yI N0,yB ([AV.sl 1 (ax n),ai ↑k].length= [AV.sl 1 (ax n),ai ↑k].length∧0< [AV.sl 1 (ax n),ai ↑k].length) ⟨rfl,Nat.succ_pos _⟩,yT ((↑i:Int)<14)])<|zF 38<|zE 0<|a_<|aP<|bo<|ak<|zQ 1 [yH [(0,yV (ao true))]] [yI Tu]<|zR (bU)
 rw [decide_eq_true c2] at N0
 have N1:=cF n k 10 hk hl (by decide) (by decide)
 have b1:=kM n k (n:=10) (by decide)
 have a1:=db hk
 have hq:=BU ⟨g,[],f⟩ (gi n k 10) aj hB.m8
 have hw:G7 ⟨g,[],f⟩ (gi n k 10)<1024:=(xn ⟨g,[],f⟩ (gi n k 10) 10).1
 generalize G7 ⟨g,[],f⟩ (gi n k 10)=bO at *
 generalize gi n k 10=y1 at *
 generalize dI n k=k1 at *
 have N2:=cF n k1 5 a1 hl (by decide) (by decide)
 have a2:=db a1
 generalize gi n k1 5=y2 at *
 generalize dI n k1=k2 at *
 refine zS<|zP 1 [yH [(4,{av:=some (ao true),ln:=[(17,1000000000000)],ho:=[(1000000000000,Row.mk 1 false true [AV.sl 1 (ax n),ai ↑k])]})]] [.aa [38,3,4,5,7] [17,4,5]] (yM 2 (yT ((↑i:Int)<14))++ [yI N0,yB ([AV.sl 1 (ax n),ai ↑k].length= [AV.sl 1 (ax n),ai ↑k].length∧0< [AV.sl 1 (ax n),ai ↑k].length) ⟨rfl,Nat.succ_pos _⟩,yT ((↑i:Int)<14)])<|zT 38<|a7<|zS<|zB 1<|zS<|Bu 3 [2] [(2,{av:=some (ai ↑y1),ln:=[(17,1000000000000)],ho:=[(1000000000000,Row.mk 1 false true [AV.sl 1 (ax n),ai ↑k1])]}),(3,yV (ai ↑bO))] [yI N1,yB ([AV.sl 1 (ax n),ai ↑k].length= [AV.sl 1 (ax n),ai ↑k1].length∧0< [AV.sl 1 (ax n),ai ↑k1].length) ⟨rfl,Nat.succ_pos _⟩,yR (AV.agg [ai g.aA,aw g.head,ai g.bt,AV.sl 4 (af aI g.al),AV.sl 7 (af bg g.aJ),AV.sl 17 (af bX []),ai (f 0),ai (f 1),ai (f 2),ai (f 3),ai (f 4),ai (f 5),ai (f 6),ai (f 7),ai (f 8),ai (f 9)]),yI hq]<|ak<|bf.rG [.aa [8,38,3,4,5,7] [17,4,5]] bD (bf.k7 (fun (w:Nat×Nat)=>(⟨[(38,ao true),(3,AV.addr 17 0),(4,AV.addr 4 0),(5,AV.addr 5 0),(7,ai ↑i),(8,ai w.1)],[(4,⟨1,false,true,pf (Dr.mk g [] f)⟩),(5,⟨1,false,true,bV g⟩),(17,⟨1,false,true,[.sl 1 (ax n),ai w.2]⟩)]⟩:AS)) (fun w=>(w.1<1024∧w.2≤n.length)) bD ?_ ?_)
 ·by_cases e4:y2=4
  ·have N3:=cF n k2 10 a2 hl (by decide) (by decide)
   have b3:=kM n k2 (n:=10) (by decide)
   have a3:=db a2
   generalize gi n k2 10=y3 at *
   generalize dI n k2=k3 at *
   have Vj:IntKind.u64.wrap ((y3:Nat):Int)=(y3:Int):=by rw [IntKind.wrap_u64];omega
   have Vi:=GL (j:=y3) aj
   have hp:2^y3<1024:=by have:=Nat.pow_lt_pow_right (a:=2) (m:=y3) (n:=10) (by decide) aj;omega
   have Vh:=JL (a:=bO) (b:=2^y3) hw hp
   refine zP 1 [yH [(1,{av:=some (ai ↑y2),ln:=[(17,1000000000000)],ho:=[(1000000000000,Row.mk 1 false true [AV.sl 1 (ax n),ai ↑k2])]}),(2,yV (ao true))]] [.aa [47,8,38,3,4,5,7] [17,4,5]] [yI N2,yB ([AV.sl 1 (ax n),ai ↑k1].length= [AV.sl 1 (ax n),ai ↑k2].length∧0< [AV.sl 1 (ax n),ai ↑k2].length) (by simp [e4]),yB (ao ((↑y2:Int) == (4:Int))=ao true) (by simp [e4])]<|zT 47<|zX (yH [(2,{av:=some (ai ↑y3),ln:=[(17,1000000000000)],ho:=[(1000000000000,Row.mk 1 false true [AV.sl 1 (ax n),ai ↑k3])]}),(3,yV (AV.val (Value.int .u64 (↑y3:Int)))),(4,yV (ai (↑((2:Nat)^y3):Int))),(5,yV (ai (↑(bO^^^(2:Nat)^y3):Int)))]) [yI N3,yB ([AV.sl 1 (ax n),ai ↑k2].length= [AV.sl 1 (ax n),ai ↑k3].length∧0< [AV.sl 1 (ax n),ai ↑k3].length) (by simp [e4]),yI (yd Vj),yI (yc Vi),yB ((0:Int)≤(↑y3:Int)) (by simp [e4]),yI (yc Vh)]<|ak (⟨(bO^^^2^y3,k3),⟨Nat.xor_lt_two_pow (n:=10) hw hp,a3⟩,(zW [.aa [38,3,4,5,7,8] [4,5,17]])⟩)
  ·skip
   refine zP 1 [yH [(1,{av:=some (ai ↑y2),ln:=[(17,1000000000000)],ho:=[(1000000000000,Row.mk 1 false true [AV.sl 1 (ax n),ai ↑k2])]}),(2,yV (ao false))]] [.aa [47,8,38,3,4,5,7] [17,4,5]] [yI N2,yB ([AV.sl 1 (ax n),ai ↑k1].length= [AV.sl 1 (ax n),ai ↑k2].length∧0< [AV.sl 1 (ax n),ai ↑k2].length) ⟨rfl,Nat.succ_pos _⟩,yB (ao ((↑y2:Int) == (4:Int))=ao false) (by simp;omega)]<|zF 47<|a7 (⟨(bO,k2),⟨hw,a2⟩,(zW [.aa [38,3,4,5,7,8] [4,5,17]])⟩)
 clear N0 N1 N2 hq hw a1 a2 b1
 rintro ⟨bO,k2⟩ ⟨hw,a2⟩
 simp only at hw a2
 have N3:=cF n k2 8 a2 hl (by decide) (by decide)
 have a3:=db a2
 generalize gi n k2 8=y3 at *
 generalize dI n k2=k3 at *
 refine zP 1 [{}] [.aa [9,38,3,4,5,7,8] [9,4,5,17]] [yL 16 16] (bf.k7 (fun (p:Nat->Int)=>(⟨[(9,AV.addr 9 0),(38,ao true),(3,AV.addr 17 0),(4,AV.addr 4 0),(5,AV.addr 5 0),(7,ai ↑i),(8,ai ↑bO)],[(4,⟨1,false,true,List.map (aR 9) (pf (Dr.mk g [] f))⟩),(5,⟨1,false,true,List.map (aR 9) (bV g)⟩),(9,⟨1,false,true,pf ⟨g,[],p⟩⟩),(17,⟨1,false,true,[.sl 1 (ax n),ai k3]⟩)]⟩:AS)) (fun p=>(True)) bD ?_ ?_)
 ·by_cases e7:y3=7
  ·skip
   refine zP 1 [yH [(1,{av:=some (ai ↑y3),ln:=[(17,1000000000000)],ho:=[(1000000000000,Row.mk 1 false true [AV.sl 1 (ax n),ai ↑k3])]}),(2,yV (ao true))]] [.aa [57,9,38,3,4,5,7,8] [17,9,4,5]] [yI N3,yB ([AV.sl 1 (ax n),ai ↑k2].length= [AV.sl 1 (ax n),ai ↑k3].length∧0< [AV.sl 1 (ax n),ai ↑k3].length) (by simp [e7]),yB (ao ((↑y3:Int) == (7:Int))=ao true) (by simp [e7])]<|zT 57<|zX {} [yL 16 16]<|ak (⟨(fun _=>0),trivial,(zW [.aa [9,38,3,4,5,7,8] [4,5,9,17]])⟩)
  ·skip
   refine zP 1 [yH [(1,{av:=some (ai ↑y3),ln:=[(17,1000000000000)],ho:=[(1000000000000,Row.mk 1 false true [AV.sl 1 (ax n),ai ↑k3])]}),(2,yV (ao false))]] [.aa [57,9,38,3,4,5,7,8] [17,9,4,5]] [yI N3,yB ([AV.sl 1 (ax n),ai ↑k2].length= [AV.sl 1 (ax n),ai ↑k3].length∧0< [AV.sl 1 (ax n),ai ↑k3].length) ⟨rfl,Nat.succ_pos _⟩,yB (ao ((↑y3:Int) == (7:Int))=ao false) (by simp;omega)]<|zF 57<|a7 (⟨f,trivial,(zW [.aa [9,38,3,4,5,7,8] [4,5,9,17]])⟩)
 clear N3
 rintro p -
 have N4:=A9 n k3 g a3 hl hB
 obtain ⟨d1,d2,d3⟩:=Ng n g k3 a3 hB.m8
 generalize K3 n g k3=E at *
 obtain ⟨E,k4⟩:=E
 simp only at N4 d1 d2 d3
 have Qh:=zi (fun e he=>rO e he) ⟨g,[],p⟩ E bO hw d1 d2
 have Rj:=BH d1 p bO 10
 rw [show E.aq.length=0 by rw [d2];rfl] at Rj
 simp only at Qh
 generalize ba E p bO 10=S at *
 obtain ⟨e,nx⟩:=S
 simp only at Qh Rj
 unfold Et at N4
 refine zS<|QL 12 9 [4,6] [10,11] [(4,{av:=some (AV.agg [ai E.aA,aw E.prev,ai E.kind,cZ E.name,ai E.kh,aw E.kr,ai E.bt,aw E.dep.bF,aw E.dep.peer,AV.sl 1 (ag E.dep.box),AV.sl 1 (af ay E.dep.ae),AV.sl 1 (ah E.dep.au),ai E.dep.need,aw E.dep.target,aw E.bF,aw E.target,AV.nil]),ln:=[(17,1000000000000)],ho:=[(1000000000000,Row.mk 1 false true [AV.sl 1 (ax n),ai ↑k4])]}),(6,{av:=some (AV.br [AV.agg [ai e.aA,aw e.prev,ai e.kind,cZ e.name,ai e.kh,aw e.kr,ai e.bt,aw e.dep.bF,aw e.dep.peer,AV.sl 1 (ag e.dep.box),AV.sl 1 (af ay e.dep.ae),AV.sl 1 (ah e.dep.au),ai e.dep.need,aw e.dep.target,aw e.bF,aw e.target,AV.own 4 (af aU e.aq)],AV.arr (vu nx)]),b:=false})] [yI N4,yB ([AV.sl 1 (ax n),ai ↑k3].length= [AV.sl 1 (ax n),ai ↑k4].length∧0< [AV.sl 1 (ax n),ai ↑k4].length) ⟨rfl,Nat.succ_pos _⟩,yR (AV.agg [ai g.aA,aw g.head,ai g.bt,AV.sl 4 (af aI g.al),AV.sl 7 (af bg g.aJ),AV.sl 17 (af bX []),ai (p 0),ai (p 1),ai (p 2),ai (p 3),ai (p 4),ai (p 5),ai (p 6),ai (p 7),ai (p 8),ai (p 9)]),yR (ai ↑bO),yI Qh,yL 17 17,yL 17 17,yL 10 10]<|ak<|bf.rG [.aa [10,11,3,4,5,7] [10,1701067,11,17,4,5],.sm 1701067 77] bD ?_
 obtain ⟨eB,eV⟩:=Rj
 clear Qh N4 d1 d2
 have N5:=cF n k4 10 d3 hl (by decide) (by decide)
 have a5:=db d3
 generalize gi n k4 10=y5 at *
 generalize dI n k4=k5 at *
 refine bf.k7 (fun (s:fo×Nat)=>(⟨[(10,AV.addr 10 0),(11,AV.addr 11 0),(3,AV.addr 17 0),(4,AV.addr 4 0),(5,AV.addr 5 0),(7,ai ↑i)],[(10,⟨1,false,true,[ai s.1.aA,aw s.1.prev,ai s.1.kind,cZ s.1.name,ai s.1.kh,aw s.1.kr,ai s.1.bt,aw s.1.dep.bF,aw s.1.dep.peer,.sl 1 (ag s.1.dep.box),.sl 1 (af ay s.1.dep.ae),.sl 1 (ah s.1.dep.au),ai s.1.dep.need,aw s.1.dep.target,aw s.1.bF,aw s.1.target,.ref 77]⟩),(77,⟨4,true,false,af aU s.1.aq⟩),(17,⟨1,false,true,[.sl 1 (ax n),ai s.2]⟩),(11,⟨1,false,true,vu nx⟩),(4,⟨1,false,true,pf ⟨g,[],f⟩⟩),(5,⟨1,false,true,bV g⟩)]⟩:AS)) (fun s=>(mQ s.1∧s.1.aq.length≤10∧s.2≤n.length)) bD ?_ ?_
 ·have uq:(af aU e.aq).length=e.aq.length*4:=aE (e:=4) (fun _=>rfl) ..
  by_cases e1:1<e.aq.length
  ·by_cases e9:y5=9
   ·have RZ:=jm (l:=e.aq) (i:=0) aj
    have UU:=jm (l:=e.aq) (i:=1) e1
    refine zP 1 [yH [(2,{k:=e.aq.length}),(6,{av:=some (ai ↑y5),ln:=[(17,1000000000000)],ho:=[(1000000000000,Row.mk 1 false true [AV.sl 1 (ax n),ai ↑k5])]}),(7,yV (ao true))]] [.aa [78,10,11,3,4,5,7] [17,10,77,11,4,5]] ([yI uq]++yM 2 (yT ((↑e.aq.length:Int)>1))++ [yI N5,yB ([AV.sl 1 (ax n),ai ↑k4].length= [AV.sl 1 (ax n),ai ↑k5].length∧0< [AV.sl 1 (ax n),ai ↑k5].length) (by simp [e9]),yT ((↑e.aq.length:Int)>1),yB (ao ((↑y5:Int) == (9:Int))=ao true) (by simp [e9]),yT ((↑e.aq.length:Int)>1)])<|zT 78<|zX ({hs:=[(2,{k:=1}),(3,yV (AV.agg (aU (e.aq.getD 1 default)))),(6,{k:=0}),(7,yV (AV.agg (aU (e.aq.getD 0 default))))],T:=8}) [yR (1:Int),yO (4<(af aU e.aq).length),yu aU e.aq 1 0 4,yR 4,yR (0:Int),yO (0<(af aU e.aq).length),yu aU e.aq 0 0 4,yR 4,yL 17 17]<|ak (⟨({e with aq:=[e.aq.getD 1 default,e.aq.getD 0 default]},k5),⟨⟨eB.NI,eB.dep⟩,by show 2≤10;omega,a5⟩,(zW [.sm 87 77,.loose 77,.aa [10,11,3,4,5,7] [10,77,17,11,4,5]])⟩)
   ·skip
    refine zP 1 [yH [(2,{k:=e.aq.length}),(3,yV (ao true)),(6,{av:=some (ai ↑y5),ln:=[(17,1000000000000)],ho:=[(1000000000000,Row.mk 1 false true [AV.sl 1 (ax n),ai ↑k5])]}),(7,yV (ao false))]] [.aa [78,10,11,3,4,5,7] [17,10,77,11,4,5]] [yI uq,yB (ao (decide ((↑e.aq.length:Int)>1))=ao true) (by simp;omega),yR true,yR true,yI N5,yB ([AV.sl 1 (ax n),ai ↑k4].length= [AV.sl 1 (ax n),ai ↑k5].length∧0< [AV.sl 1 (ax n),ai ↑k5].length) ⟨rfl,Nat.succ_pos _⟩,yR true,yB (ao ((↑y5:Int) == (9:Int))=ao false) (by simp;omega),yR true]<|zF 78<|a7 (⟨(e,k5),⟨eB,aj,a5⟩,(zW [.aa [10,11,3,4,5,7] [10,77,17,11,4,5]])⟩)
  ·skip
   refine zP 1 [yH ([(2,{k:=e.aq.length}),(8,{b:=false})]++yg [5,6,7])] [.aa [78,10,11,3,4,5,7] [10,77,11,17,4,5]] ([yI uq]++yM 4 (yF ((↑e.aq.length:Int)>1)))<|zF 78<|a7 (⟨(e,k4),⟨eB,aj,d3⟩,(zW [.aa [10,11,3,4,5,7] [10,77,17,11,4,5]])⟩)
 clear N5 eB eV a5 d3
 rintro ⟨e,k4⟩ ⟨eB,eV,a4⟩
 simp only at eB eV a4
 have N6:=cF n k4 12 a4 hl (by decide) (by decide)
 have a6:=db a4
 generalize gi n k4 12=y6 at *
 generalize dI n k4=k6 at *
 refine bf.k7 (fun (s:fo×Nat)=>(⟨[(10,AV.addr 10 0),(11,AV.addr 11 0),(3,AV.addr 17 0),(4,AV.addr 4 0),(5,AV.addr 5 0),(7,ai ↑i)],[(10,⟨1,false,true,[ai s.1.aA,aw s.1.prev,ai s.1.kind,cZ s.1.name,ai s.1.kh,aw s.1.kr,ai s.1.bt,aw s.1.dep.bF,aw s.1.dep.peer,.sl 1 (ag s.1.dep.box),.sl 1 (af ay s.1.dep.ae),.sl 1 (ah s.1.dep.au),ai s.1.dep.need,aw s.1.dep.target,aw s.1.bF,aw s.1.target,.ref 77]⟩),(77,⟨4,true,false,af aU s.1.aq⟩),(17,⟨1,false,true,[.sl 1 (ax n),ai s.2]⟩),(11,⟨1,false,true,vu nx⟩),(4,⟨1,false,true,pf ⟨g,[],f⟩⟩),(5,⟨1,false,true,bV g⟩)]⟩:AS)) (fun s=>(mQ s.1∧s.1.aq.length≤10∧s.2≤n.length)) bD ?_ ?_
 ·have uq:(af aU e.aq).length=e.aq.length*4:=aE (e:=4) (fun _=>rfl) ..
  by_cases e1:0<e.aq.length
  ·by_cases e9:y6=11
   ·have RZ:=jm (l:=e.aq) (i:=0) aj
    obtain ⟨L,hL⟩:∃L:Int,L=IntKind.i64.wrap ((BitVec.ofInt IntKind.i64.bits (e.aq.getD 0 default).leaf^^^BitVec.ofInt IntKind.i64.bits 1).toNat:Nat):=⟨_,rfl⟩
    have hs:=EK (l:=e.aq) (k:=0) e1 L
    rw [show 0*4+1=1 from rfl] at hs
    refine zP 1 [yH [(2,{k:=e.aq.length}),(6,{av:=some (ai ↑y6),ln:=[(17,1000000000000)],ho:=[(1000000000000,Row.mk 1 false true [AV.sl 1 (ax n),ai ↑k6])]}),(7,yV (ao true))]] [.aa [97,10,11,3,4,5,7] [17,10,77,11,4,5]] ([yI uq]++yM 2 (yT ((↑e.aq.length:Int)>0))++ [yI N6,yB ([AV.sl 1 (ax n),ai ↑k4].length= [AV.sl 1 (ax n),ai ↑k6].length∧0< [AV.sl 1 (ax n),ai ↑k6].length) (by simp [e9]),yT ((↑e.aq.length:Int)>0),yB (ao ((↑y6:Int) == (11:Int))=ao true) (by simp [e9]),yT ((↑e.aq.length:Int)>0)])<|zT 97<|zX (yH [(2,{k:=0}),(5,yV (ai ((e.aq.getD 0 default).leaf))),(6,yV (ai L)),(7,{k:=0})]) [yR (0:Int),yO (0<(af aU e.aq).length),yA aU e.aq 0 1,yB (ai (IntKind.i64.wrap (↑(BitVec.ofInt IntKind.i64.bits (e.aq.getD 0 default).leaf^^^BitVec.ofInt IntKind.i64.bits (1:Int)).toNat:Int))=ai L) (congrArg ai hL.symm),yR (0:Int),yO (0<(af aU e.aq).length),yO (2≤(af aU e.aq).length)]<|ak (⟨({e with aq:=e.aq.set 0 {e.aq.getD 0 default with leaf:=L}},k6),⟨⟨eB.NI,eB.dep⟩,by show (List.set _ _ _).length≤10;rw [List.length_set];exact eV,a6⟩,(eJ [.aa [10,11,3,4,5,7] [10,77,17,11,4,5]] [] [77] [yI hs])⟩)
   ·skip
    refine zP 1 [yH [(2,{k:=e.aq.length}),(3,yV (ao true)),(6,{av:=some (ai ↑y6),ln:=[(17,1000000000000)],ho:=[(1000000000000,Row.mk 1 false true [AV.sl 1 (ax n),ai ↑k6])]}),(7,yV (ao false))]] [.aa [97,10,11,3,4,5,7] [17,10,77,11,4,5]] [yI uq,yB (ao (decide ((↑e.aq.length:Int)>0))=ao true) (by simp;omega),yR true,yR true,yI N6,yB ([AV.sl 1 (ax n),ai ↑k4].length= [AV.sl 1 (ax n),ai ↑k6].length∧0< [AV.sl 1 (ax n),ai ↑k6].length) ⟨rfl,Nat.succ_pos _⟩,yR true,yB (ao ((↑y6:Int) == (11:Int))=ao false) (by simp;omega),yR true]<|zF 97<|a7 (⟨(e,k6),⟨eB,eV,a6⟩,(zW [.aa [10,11,3,4,5,7] [10,77,17,11,4,5]])⟩)
  ·skip
   refine zP 1 [yH ([(2,{k:=e.aq.length}),(8,{b:=false})]++yg [5,6,7])] [.aa [97,10,11,3,4,5,7] [10,77,17,11,4,5]] ([yI uq]++yM 4 (yF ((↑e.aq.length:Int)>0)))<|zF 97<|a7 (⟨(e,k4),⟨eB,eV,a4⟩,(zW [.aa [10,11,3,4,5,7] [10,77,17,11,4,5]])⟩)
 clear N6 eB eV a6 a4
 rintro ⟨e,k4⟩ ⟨eB,eV,a4⟩
 simp only at eB eV a4
 refine bf.rG [.gp 77] bD ?_
 have LM:=oa g e hB eB aj
 have Qk:=xl g e hB eB aj (rO e eB)
 have TD:=Lj e hB
 have Tz:=hH.Vx (e:=e) eB.dep.F_
 have NQ:=zo (kQ g e) TD Tz
 by_cases c3:fI g e=0
 ·rw [c3] at LM Qk
  generalize kQ g e=h at *
  refine zP 2 [yH [(2,{av:=some (AV.br [AV.agg (bV h),ai 0]),b:=false})],yH [(3,{av:=some (AV.br [AV.agg (bV h),ai 0]),b:=false})]] [.aa [15,14,13,12,10,11,3,4,5,7] [14,12,10,17,11,4,5]] [yI LM,yL 5 5,yI Qk,yL 5 5]<|zS<|zP 1 [yH ([(2,yV (ao false)),(6,{av:=some (ao true),g:=false}),(7,{av:=some (ao false),g:=false}),(8,{b:=false})]++yg [4,5])] [.aa [129,15,14,13,12,10,11,3,4,5,7] [14,12,10,17,11,4,5]] ([yR (ao false)]++yM 3 (yR false)++ [yI NQ,yR false,yR (ao false),yR false])<|zF 129<|a7<|zP 2 [{},yH [(1,yV (ao true))]] [.aa [132,129,15,14,13,12,10,11,3,4,5,7] [5,14,12,10,17,11,4]] [yL 5 5,yR (ao true)]<|zT 132<|Bu 4 [3] [(1,yV (AV.agg [ai (nx 0),ai (nx 1),ai (nx 2),ai (nx 3),ai (nx 4),ai (nx 5),ai (nx 6),ai (nx 7),ai (nx 8),ai (nx 9)]))] [yR (List.take 10 (List.drop 0 (List.map (aR 14) (List.map (aR 12) (List.map (kX 77 (Row.mk 4 true false (af aU e.aq))) (vu nx)))))),yR 10,yL 5 16,yR (AV.agg [ai (nx 0),ai (nx 1),ai (nx 2),ai (nx 3),ai (nx 4),ai (nx 5),ai (nx 6),ai (nx 7),ai (nx 8),ai (nx 9)]),yR (List.take 10 (List.drop 0 (List.map (aR 14) (List.map (aR 12) (List.map (kX 77 (Row.mk 4 true false (af aU e.aq))) (vu nx)))))),yR 10,yL 16 16]<|aL<|ak<|zX (yH [(1,yV (ai ((↑i:Int)+1)))]) [yN ((↑i:Int)+1)] (aH (i+1,h,nx,k4) ⟨c1,TD,Tz,a4⟩ aj (zW [.aa [3,4,5,7] [17,4,5]]))
 ·rw [s6 c3] at LM Qk NQ
  refine zP 2 [yH [(2,{av:=some (AV.br [AV.agg (bV g),ai (fI g e)]),b:=false})],yH [(3,{av:=some (AV.br [AV.agg (bV g),ai (fI g e)]),b:=false})]] [.aa [15,14,13,12,10,11,3,4,5,7] [14,12,10,17,11,4,5]] [yI LM,yL 5 5,yI Qk,yL 5 5]<|zS<|zP 1 [yH ([(2,yV (ao false)),(6,{av:=some (ao true),g:=false}),(7,{av:=some (ao false),g:=false}),(8,{b:=false})]++yg [4,5])] [.aa [129,15,14,13,12,10,11,3,4,5,7] [14,12,10,17,11,4,5]] ([yB (ao (fI g e != fI g e)=ao false) (by simp [c3])]++yM 3 (yR false)++ [yI NQ,yR false,yR (ao false),yR false])<|zF 129<|a7<|zP 2 [{},yH [(1,yV (ao false))]] [.aa [132,129,15,14,13,12,10,11,3,4,5,7] [5,14,12,10,17,11,4]] [yL 5 5,yB (ao (fI g e == (0:Int))=ao false) (by simp [c3])]<|zF 132<|zK<|aL<|ak<|zX (yH [(1,yV (ai ((↑i:Int)+1)))]) [yN ((↑i:Int)+1)] (aH (i+1,g,f,k4) ⟨c1,hB,hH,a4⟩ aj (zW [.aa [3,4,5,7] [17,4,5]]))
end Go.Proofs.YtjgbhhnghedgdaaGreatDoor
