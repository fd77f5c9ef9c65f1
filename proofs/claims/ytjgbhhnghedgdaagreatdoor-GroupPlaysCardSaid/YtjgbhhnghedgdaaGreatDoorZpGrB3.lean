import Derived.Test.YtjgbhhnghedgdaaGreatDoorZpGrB1
set_option linter.all false
namespace Go.Proofs.YtjgbhhnghedgdaaGreatDoor
open Go.RowKit
set_option maxRecDepth 100000
set_option maxHeartbeats 4000000
structure mQ (e:fo):Prop where
 NI:e.name.length≤1000
 dep:yP e.dep
theorem uO (e:fo) (h1:1≤e.kind) (h5:e.kind≤5) (hB:mQ e):bK Tryz.prog 74 [.agg (bX e)] (.br [.own 1 (af df (if eW e=0 then iY e else [])),ai (eW e)]):=by
 obtain ⟨hn,hd⟩:=hB
 have hz:=qA e.name hn
 by_cases k1:e.kind=1
 ·have hf:eW e=if dV e.name≠0 then dV e.name else eT e.kh:=if_pos k1
  by_cases c1:dV e.name=0
  case neg =>
   rw [if_pos c1] at hf
   have hv:(if eW e=0 then iY e else [])= []:=if_neg (by rw [hf];exact c1)
   rw [hv,hf]
   refine zO Tryz.func74 77<|zq<|zS<|zq<|zB 0<|zP 1 [{}] [.aa [10,9,3,2,1,0] [1]] []<|dr 10 (e.kind == (1:Int)) fi<|zS<|zP 2 [yH [(2,yV (ai (dV e.name)))],yH [(1,yV (ao true))]] [.aa [16,4,10,9,3,2,1,0] [1]] [yI (er e.name hn),yB (ao (dV e.name != (0:Int))=ao true) (by simp [c1])]<|zT 16<|zq<|dt<|bc<|aK (bU)
  rw [if_neg aj] at hf
  by_cases c2:eT e.kh=0
  case neg =>
   have hv:(if eW e=0 then iY e else [])= []:=if_neg (by rw [hf];exact c2)
   rw [hv,hf]
   refine zO Tryz.func74 77<|zq<|zS<|zq<|zB 0<|zP 1 [{}] [.aa [10,9,3,2,1,0] [1]] []<|dr 10 (e.kind == (1:Int)) fi<|zS<|zP 2 [yH [(2,yV (ai (dV e.name)))],yH [(1,yV (ao false))]] [.aa [16,4,10,9,3,2,1,0] [1]] [yI (er e.name hn),yB (ao (dV e.name != (0:Int))=ao false) (by simp [c1])]<|zF 16<|a7<|zP 1 [yH [(2,yV (AV.br [AV.own 1 (ag (dc e.kh e.kr)),ai (eT e.kh)]))]] [.aa [6,5,16,4,10,9,3,2,1,0] [1021,1]] [yI (hU e.kh e.kr),yI (aQ (dc e.kh e.kr))]<|zS<|zQ 1 [yH [(1,yV (ao true))]] [yB (ao (eT e.kh != (0:Int))=ao true) (by simp [c2])]<|zT 25<|zP 1 [{}] [.aa [3,2,25,6,5,16,4,10,9,1,0] [1021,1]] []<|dt<|bc<|aK (bU)
  have hv:(if eW e=0 then iY e else [])= [[cy e.name],[dQ (dc e.kh e.kr)]]:=by rw [if_pos aj];unfold iY ga;rw [if_neg aj,if_pos k1];rfl
  have iF:=nm e.kh e.kr
  rw [hv,hf,c2]
  refine zO Tryz.func74 77<|zq<|zS<|zq<|zB 0<|zP 1 [{}] [.aa [10,9,3,2,1,0] [1]] []<|dr 10 (e.kind == (1:Int)) fi<|zS<|zP 2 [yH [(2,yV (ai (dV e.name)))],yH [(1,yV (ao false))]] [.aa [16,4,10,9,3,2,1,0] [1]] [yI (er e.name hn),yB (ao (dV e.name != (0:Int))=ao false) (by simp [c1])]<|zF 16<|a7<|zP 1 [yH [(2,yV (AV.br [AV.own 1 (ag (dc e.kh e.kr)),ai (eT e.kh)]))]] [.aa [6,5,16,4,10,9,3,2,1,0] [1021,1]] [yI (hU e.kh e.kr),yI (aQ (dc e.kh e.kr))]<|zS<|zQ 1 [yH [(1,yV (ao false))]] [yB (ao (eT e.kh != (0:Int))=ao false) (by simp [c2])]<|zF 25<|a7<|zP 1 [yH [(2,{av:=some (AV.own 3 (af aY [cy e.name])),b:=false}),(4,{av:=some (AV.own 3 (af aY [dQ (dc e.kh e.kr)])),b:=false})]] [.aa [3,2,25,6,5,16,4,10,9,1,0] [32,1]] [yI (tt e.name),yI (Bi (dc e.kh e.kr) aj)]<|zR<|bc<|aK (bU)
 by_cases k2:e.kind=2
 ·have hf:eW e=dV e.name:=by unfold eW;rw [if_neg k1,if_pos k2]
  by_cases c1:dV e.name=0
  case neg =>
   have hv:(if eW e=0 then iY e else [])= []:=if_neg (by rw [hf];exact c1)
   rw [hv,hf]
   refine zO Tryz.func74 77<|zq<|zS<|zq<|zB 0<|zP 1 [{}] [.aa [10,9,3,2,1,0] [1]] []<|bj 10 (e.kind == (1:Int)) bE<|zq<|dr 33 (e.kind == (2:Int)) fi<|zS<|zP 2 [yH [(2,yV (ai (dV e.name)))],yH [(1,yV (ao true))]] [.aa [39,7,33,10,9,3,2,1,0] [1]] [yI (er e.name hn),yB (ao (dV e.name != (0:Int))=ao true) (by simp [c1])]<|zT 39<|zq<|dt<|bc<|aK (bU)
  have hv:(if eW e=0 then iY e else [])= [[cy e.name]]:=by rw [if_pos aj];unfold iY ga;rw [if_neg aj,if_neg k1,if_pos k2];rfl
  rw [hv,hf,c1]
  refine zO Tryz.func74 77<|zq<|zS<|zq<|zB 0<|zP 1 [{}] [.aa [10,9,3,2,1,0] [1]] []<|bj 10 (e.kind == (1:Int)) bE<|zq<|dr 33 (e.kind == (2:Int)) fi<|zS<|zP 2 [yH [(2,yV (ai (dV e.name)))],yH [(1,yV (ao false))]] [.aa [39,7,33,10,9,3,2,1,0] [1]] [yI (er e.name hn),yB (ao (dV e.name != (0:Int))=ao false) (by simp [c1])]<|zF 39<|a7<|zP 1 [yH [(2,{av:=some (AV.own 3 (af aY [cy e.name])),b:=false})]] [.aa [3,2,39,7,33,10,9,1,0] [44,1]] [yI (tt e.name)]<|zR<|bc<|aK (bU)
 by_cases k3:e.kind=3
 ·have hf:eW e=if e.bt<1∨8<e.bt then 9 else 0:=by unfold eW;rw [if_neg k1,if_neg k2,if_pos k3]
  by_cases c1:e.bt<1
  ·rw [if_pos (.inl c1)] at hf
   rw [hf,if_neg aj]
   refine zO Tryz.func74 77<|zq<|zS<|zq<|zB 0<|zP 1 [{}] [.aa [10,9,3,2,1,0] [1]] []<|bj 10 (e.kind == (1:Int)) bE<|zq<|bj 33 (e.kind == (2:Int)) bE<|zP 1 [{}] [.aa [45,33,10,9,3,2,1,0] [1]] []<|dr 45 (e.kind == (3:Int)) fi<|zS<|zP 1 [{}] [.aa [54,45,33,10,9,3,2,1,0] [1]] (yM 4 (yT (e.bt<1)))<|zT 54<|zq<|dt<|bc<|aK (bU)
  by_cases c2:8<e.bt
  ·rw [if_pos (.inr c2)] at hf
   rw [hf,if_neg aj]
   refine zO Tryz.func74 77<|zq<|zS<|zq<|zB 0<|zP 1 [{}] [.aa [10,9,3,2,1,0] [1]] []<|bj 10 (e.kind == (1:Int)) bE<|zq<|bj 33 (e.kind == (2:Int)) bE<|zP 1 [{}] [.aa [45,33,10,9,3,2,1,0] [1]] []<|dr 45 (e.kind == (3:Int)) fi<|zS<|zP 1 [yH ([(7,{b:=false})]++yg [4,5,6])] [.aa [54,45,33,10,9,3,2,1,0] [1]] (yM 4 (yF (e.bt<1)))<|ib 54 (e.bt>8)<|zq<|dt<|bc<|aK (bU)
  rw [if_neg aj] at hf
  have hv:iY e= [[aF (u64 e.bt)]]:=by unfold iY ga;rw [if_neg aj,if_neg k1,if_neg k2,if_pos k3];rfl
  rw [hf,if_pos rfl,hv]
  refine zO Tryz.func74 77<|zq<|zS<|zq<|zB 0<|zP 1 [{}] [.aa [10,9,3,2,1,0] [1]] []<|bj 10 (e.kind == (1:Int)) bE<|zq<|bj 33 (e.kind == (2:Int)) bE<|zP 1 [{}] [.aa [45,33,10,9,3,2,1,0] [1]] []<|dr 45 (e.kind == (3:Int)) fi<|zS<|zP 1 [yH ([(7,{b:=false})]++yg [4,5,6])] [.aa [54,45,33,10,9,3,2,1,0] [1]] (yM 4 (yF (e.bt<1)))<|dp 54 (e.bt>8)<|a7<|zP 1 [yH [(2,yV (aw (u64 e.bt))),(3,{av:=some (AV.own 3 (af aY [aF (u64 e.bt)])),b:=false})]] [.aa [3,2,54,45,33,10,9,1,0] [59,1]] [yI (a8 e.bt),yI (gU (u64 e.bt))]<|zR<|bc<|aK (bU)
 by_cases k4:e.kind=4
 ·have hf:eW e=fC e.dep:=by unfold eW;rw [if_neg k1,if_neg k2,if_neg k3,if_pos k4]
  have hv:iY e=L8 e.dep:=if_pos k4
  rw [hf,hv]
  have Ie:=vA e.dep hd
  generalize (if fC e.dep=0 then L8 e.dep else [])=V at *
  generalize fC e.dep=E at *
  refine zO Tryz.func74 77<|zq<|zS<|zq<|zB 0<|zP 1 [{}] [.aa [10,9,3,2,1,0] [1]] []<|bj 10 (e.kind == (1:Int)) bE<|zq<|bj 33 (e.kind == (2:Int)) bE<|zP 1 [{}] [.aa [45,33,10,9,3,2,1,0] [1]] []<|bj 45 (e.kind == (3:Int)) bE<|zq<|dr 60 (e.kind == (4:Int)) fi<|zP 1 [yH [(2,{av:=some (AV.br [AV.own 1 (af df V),ai E]),b:=false})]] [.aa [3,2,60,45,33,10,9,1,0] [1064,1]] [yI Ie]<|zR<|bc<|aK (bU)
 have hf:eW e=if e.target=0 then 9 else 0:=by unfold eW;rw [if_neg k1,if_neg k2,if_neg k3,if_neg k4]
 by_cases c1:e.target=0
 ·rw [if_pos c1] at hf
  rw [hf,if_neg aj]
  refine zO Tryz.func74 77<|zq<|zS<|zq<|zB 0<|zP 1 [{}] [.aa [10,9,3,2,1,0] [1]] []<|bj 10 (e.kind == (1:Int)) bE<|zq<|bj 33 (e.kind == (2:Int)) bE<|zP 1 [{}] [.aa [45,33,10,9,3,2,1,0] [1]] []<|bj 45 (e.kind == (3:Int)) bE<|zq<|bj 60 (e.kind == (4:Int)) bE<|zK<|aL<|ak<|zS<|zP 1 [yH [(2,yV (ao (e.target == 0)))]] [.aa [69,60,45,33,10,9,3,2,1,0] [1]] [yI (fm e.target 0)]<|dr 69 (e.target == 0) fi<|zq<|dt (bU)
 rw [if_neg c1] at hf
 have hv:iY e= [[aF e.bF],[aF e.target]]:=by unfold iY ga;rw [if_neg k4,if_neg k1,if_neg k2,if_neg k3,if_neg k4];rfl
 rw [hf,if_pos rfl,hv]
 refine zO Tryz.func74 77<|zq<|zS<|zq<|zB 0<|zP 1 [{}] [.aa [10,9,3,2,1,0] [1]] []<|bj 10 (e.kind == (1:Int)) bE<|zq<|bj 33 (e.kind == (2:Int)) bE<|zP 1 [{}] [.aa [45,33,10,9,3,2,1,0] [1]] []<|bj 45 (e.kind == (3:Int)) bE<|zq<|bj 60 (e.kind == (4:Int)) bE<|zK<|aL<|ak<|zS<|zP 1 [yH [(2,yV (ao (e.target == 0)))]] [.aa [69,60,45,33,10,9,3,2,1,0] [1]] [yI (fm e.target 0)]<|bj 69 (e.target == 0) bE<|a7<|zP 1 [{hs:=[(2,{av:=some (AV.own 3 (af aY [aF e.bF])),b:=false}),(5,{av:=some (AV.own 3 (af aY [aF e.target])),b:=false})],T:=5}] [.aa [3,2,69,60,45,33,10,9,1,0] [76,1]] [yI (gU e.bF),yI (gU e.target)]<|zR (bU)
theorem Ji (e:fo) (hB:mQ e):bK Tryz.prog 39 [.agg (bX e)] (.br [.own 1 (ag (fA e)),ai (eh e)]):=by
 by_cases c:eh e=0
 case neg =>
  have hb:fA e= []:=if_neg c
  rw [hb]
  unfold eh
  by_cases k1:e.kind<1
  ·rw [if_pos (.inl k1)]
   refine zO Tryz.func39 60<|zq<|zS<|zP 1 [{}] [.aa [15,3,2,1,0] [1]] (yM 4 (yT (e.kind<1)))<|zT 15<|zq<|dt (bU)
  by_cases k5:5<e.kind
  ·rw [if_pos (.inr k5)]
   refine zO Tryz.func39 60<|zq<|zS<|zP 1 [yH ([(7,{b:=false})]++yg [4,5,6])] [.aa [15,3,2,1,0] [1]] (yM 4 (yF (e.kind<1)))<|ib 15 (e.kind>5)<|zq<|dt (bU)
  rw [if_neg aj]
  by_cases c1:¬fa e
  ·rw [if_pos c1]
   refine zO Tryz.func39 60<|zq<|zS<|zP 1 [yH ([(7,{b:=false})]++yg [4,5,6])] [.aa [15,3,2,1,0] [1]] (yM 4 (yF (e.kind<1)))<|dp 15 (e.kind>5)<|a7<|zS<|zP 1 [yH [(1,yV (ao (decide ¬fa e)))]] [.aa [17,15,3,2,1,0] [1]] [yI (jB e aj aj)]<|dr 17 (decide ¬fa e) fi<|zq<|dt (bU)
  have vc:decide (¬fa e)=false:=decide_eq_false c1
  rw [if_neg c1]
  by_cases q1:e.aA<1
  ·rw [if_pos (.inl q1)]
   refine zO Tryz.func39 60<|zq<|zS<|zP 1 [yH ([(7,{b:=false})]++yg [4,5,6])] [.aa [15,3,2,1,0] [1]] (yM 4 (yF (e.kind<1)))<|dp 15 (e.kind>5)<|a7<|zS<|zP 1 [yH [(1,yV (ao (decide ¬fa e)))]] [.aa [17,15,3,2,1,0] [1]] [yI (jB e aj aj)]<|bj 17 (decide ¬fa e) (by assumption)<|a7<|zS<|zP 1 [{}] [.aa [25,17,15,3,2,1,0] [1]] (yM 4 (yT (e.aA<1)))<|zT 25<|zq<|dt (bU)
  by_cases q2:2147483647<e.aA
  ·rw [if_pos (.inr q2)]
   refine zO Tryz.func39 60<|zq<|zS<|zP 1 [yH ([(7,{b:=false})]++yg [4,5,6])] [.aa [15,3,2,1,0] [1]] (yM 4 (yF (e.kind<1)))<|dp 15 (e.kind>5)<|a7<|zS<|zP 1 [yH [(1,yV (ao (decide ¬fa e)))]] [.aa [17,15,3,2,1,0] [1]] [yI (jB e aj aj)]<|bj 17 (decide ¬fa e) (by assumption)<|a7<|zS<|zP 1 [yH ([(7,{b:=false})]++yg [4,5,6])] [.aa [25,17,15,3,2,1,0] [1]] (yM 4 (yF (e.aA<1)))<|ib 25 (e.aA>2147483647)<|zq<|dt (bU)
  rw [if_neg aj]
  have LJ:eW e≠0:=by
   unfold eh at c
   rwa [if_neg aj,if_neg c1,if_neg aj] at c
  have hf:=uO e aj aj hB
  rw [if_neg LJ] at hf
  refine zO Tryz.func39 60<|zq<|zS<|zP 1 [yH ([(7,{b:=false})]++yg [4,5,6])] [.aa [15,3,2,1,0] [1]] (yM 4 (yF (e.kind<1)))<|dp 15 (e.kind>5)<|a7<|zS<|zP 1 [yH [(1,yV (ao (decide ¬fa e)))]] [.aa [17,15,3,2,1,0] [1]] [yI (jB e aj aj)]<|bj 17 (decide ¬fa e) (by assumption)<|a7<|zS<|zP 1 [yH ([(7,{b:=false})]++yg [4,5,6])] [.aa [25,17,15,3,2,1,0] [1]] (yM 4 (yF (e.aA<1)))<|dp 25 (e.aA>2147483647)<|a7<|zP 1 [yH [(1,{av:=some (AV.br [AV.own 1 (af df []),ai (eW e)]),b:=false})]] [.aa [5,4,25,17,15,3,2,1,0] [1028,1]] [yI hf]<|zS<|zQ 1 [yH [(1,yV (ao true))]] [yB (ao (eW e != (0:Int))=ao true) (by simp [LJ])]<|zT 32<|zP 1 [{}] [.aa [3,2,32,5,4,25,17,15,1,0] [1028,1]] []<|dt (bU)
 have hb:fA e=gQ (fS e):=if_pos c
 rw [hb,c]
 obtain ⟨v1,v2,v3,v4,v5,v6,v7⟩:=yw c
 unfold eh at c
 by_cases k1:e.kind<1∨5<e.kind
 ·rw [if_pos k1] at c;omega
 rw [if_neg k1] at c
 by_cases c1:¬fa e
 ·rw [if_pos c1] at c;omega
 have vc:decide (¬fa e)=false:=decide_eq_false c1
 rw [if_neg c1] at c
 by_cases q1:e.aA<1∨2147483647<e.aA
 ·rw [if_pos q1] at c;omega
 rw [if_neg q1] at c
 have hf:=uO e aj aj hB
 rw [if_pos c,c] at hf
 have ha:=rz _ v1 (by rw [List.length_append];exact v2) (by rw [v3];exact v4)
 rw [v3] at ha
 have Tj:=CX (fS e) aj (fun x hx=>(v6 x hx).1) (fun x hx=>(v6 x hx).2)
 have hd:FL (fS e)=gQ (fS e):=if_pos v4
 rw [hd,v4] at Tj
 have uq:(af df (iY e)).length≤6:=by rw [aE (e:=1) (fun _=>rfl)];omega
 clear v1 v2 v3 v4 v5 v6 hd hb
 generalize fS e=A at *
 generalize iY e=V at *
 refine zO Tryz.func39 60<|zq<|zS<|zP 1 [yH ([(7,{b:=false})]++yg [4,5,6])] [.aa [15,3,2,1,0] [1]] (yM 4 (yF (e.kind<1)))<|dp 15 (e.kind>5)<|a7<|zS<|zP 1 [yH [(1,yV (ao (decide ¬fa e)))]] [.aa [17,15,3,2,1,0] [1]] [yI (jB e aj aj)]<|bj 17 (decide ¬fa e) (by assumption)<|a7<|zS<|zP 1 [yH ([(7,{b:=false})]++yg [4,5,6])] [.aa [25,17,15,3,2,1,0] [1]] (yM 4 (yF (e.aA<1)))<|dp 25 (e.aA>2147483647)<|a7<|zP 1 [yH [(1,{av:=some (AV.br [AV.own 1 (af df V),ai 0]),b:=false})]] [.aa [5,4,25,17,15,3,2,1,0] [1028,1]] [yI hf]<|zS<|zq<|zF 32<|a7<|zP 2 [{hs:=[(2,yV (aw (u64 e.aA))),(3,{av:=some (AV.own 3 (af aY [aF (u64 e.aA)])),b:=false}),(6,{av:=some (AV.own 3 (af aY [aF e.prev])),b:=false}),(9,yV (aw (u64 e.kind))),(10,{av:=some (AV.own 3 (af aY [aF (u64 e.kind)])),b:=false})],T:=10},yH [(2,{b:=false}),(3,{av:=some (AV.br [AV.sl 3 (af aY A),ai 0]),b:=false})]] [.aa [5,7,32,4,25,17,15,3,2,1,0] [1028,1]] [yI (a8 e.aA),yI (gU (u64 e.aA)),yI (gU e.prev),yI (a8 e.kind),yI (gU (u64 e.kind)),yB (cH (af df V)) (dG (fun x=>dP rfl) _),yO ((3+(af df V).length)*24≤140737488355328),yI ha]<|zS<|zq<|zF 54<|a7<|zP 1 [yH [(1,yV (AV.br [AV.own 1 (ag (gQ A)),ai 0]))]] [.aa [3,2,54,5,7,32,4,25,17,15,1,0] [1057,1028,1]] [yI Tj,yI (aQ (gQ A))]<|zR (bU)
theorem uG (e:fo) (c:eh e=0):(fA e).length≤500000:=by
 obtain ⟨v1,v2,v3,v4,v5,v6,v7⟩:=yw c
 unfold fA
 rw [if_pos c]
 exact Nat.le_trans (qd (fun x hx=>(v6 x hx).2) v5) (by decide)
theorem tj (e:fo) (hB:mQ e):bK Tryz.prog 50 [.agg (bX e)] (.br [aw (if eh e=0 then de e else 0),ai (eh e)]):=by
 have hb:=Ji e hB
 by_cases c:eh e=0
 case neg =>
  rw [if_neg c]
  refine zO Tryz.func50 16<|zP 2 [{},yH [(1,yV (AV.br [AV.own 1 (ag (fA e)),ai (eh e)]))]] [.aa [5,4,3,2,1,0] [1008,1]] [yI hb,yI (aQ (fA e))]<|zS<|zQ 1 [yH [(1,yV (ao true))]] [yB (ao (eh e != (0:Int))=ao true) (by simp [c])]<|zT 12<|zP 1 [{}] [.aa [3,2,12,5,4,1,0] [1008,1]] []<|dt (bU)
 rw [if_pos c]
 have hl:=uG e c
 rw [c] at hb ⊢
 refine zO Tryz.func50 16<|zP 2 [{},yH [(1,yV (AV.br [AV.own 1 (ag (fA e)),ai 0]))]] [.aa [5,4,3,2,1,0] [1008,1]] [yI hb,yI (aQ (fA e))]<|zS<|zq<|zF 12<|a7<|zP 1 [yH [(1,yV (aw (hash (16:Int) (fA e))))]] [.aa [3,2,12,5,4,1,0] [1008,1]] [yI (nv ((16:Int)) (fA e))]<|zR (bU)
end Go.Proofs.YtjgbhhnghedgdaaGreatDoor
