import Derived.Test.YtjgbhhnghedgdaaGreatDoorZaGrB1
set_option linter.all false
namespace Go.Proofs.YtjgbhhnghedgdaaGreatDoor
open Go.RowKit
set_option maxRecDepth 100000
set_option maxHeartbeats 4000000
structure mN (e:eF):Prop where
 Pa:e.name.length≤1000
 dep:y8 e.dep
theorem uW (e:eF) (h1:1≤e.kind) (h5:e.kind≤5) (hB:mN e):bK Tryz.prog 74 [.agg (aT e)] (.bq [.own 1 (af df (if eY e=0 then i4 e else [])),ai (eY e)]):=by
 obtain ⟨hn,hd⟩:=hB
 have hz:=qI e.name hn
 by_cases k1:e.kind=1
 ·have hf:eY e=if d_ e.name≠0 then d_ e.name else eU e.kh:=if_pos k1
  by_cases c1:d_ e.name=0
  case neg =>
   rw [if_pos c1] at hf
   have hv:(if eY e=0 then i4 e else [])= []:=if_neg (by rw [hf];exact c1)
   rw [hv,hf]
   refine zO Tryz.func74 77<|zq<|zS<|zq<|zB 0<|zP 1 [{}] [.ae [10,9,3,2,1,0] [1]] []<|du 10 (e.kind == (1:Int)) fb<|zS<|zP 2 [yH [(2,yV (ai (d_ e.name)))],yH [(1,yV (ao true))]] [.ae [16,4,10,9,3,2,1,0] [1]] [yI (ez e.name hn),yB (ao (d_ e.name != (0:Int))=ao true) (by simp [c1])]<|zT 16<|zq<|dk<|aY<|aI (bV)
  rw [if_neg ah] at hf
  by_cases c2:eU e.kh=0
  case neg =>
   have hv:(if eY e=0 then i4 e else [])= []:=if_neg (by rw [hf];exact c2)
   rw [hv,hf]
   refine zO Tryz.func74 77<|zq<|zS<|zq<|zB 0<|zP 1 [{}] [.ae [10,9,3,2,1,0] [1]] []<|du 10 (e.kind == (1:Int)) fb<|zS<|zP 2 [yH [(2,yV (ai (d_ e.name)))],yH [(1,yV (ao false))]] [.ae [16,4,10,9,3,2,1,0] [1]] [yI (ez e.name hn),yB (ao (d_ e.name != (0:Int))=ao false) (by simp [c1])]<|zF 16<|a_<|zP 1 [yH [(2,yV (AV.bq [AV.own 1 (ag (di e.kh e.kr)),ai (eU e.kh)]))]] [.ae [6,5,16,4,10,9,3,2,1,0] [1021,1]] [yI (hY e.kh e.kr),yI (aR (di e.kh e.kr))]<|zS<|zQ 1 [yH [(1,yV (ao true))]] [yB (ao (eU e.kh != (0:Int))=ao true) (by simp [c2])]<|zT 25<|zP 1 [{}] [.ae [3,2,25,6,5,16,4,10,9,1,0] [1021,1]] []<|dk<|aY<|aI (bV)
  have hv:(if eY e=0 then i4 e else [])= [[cA e.name],[dX (di e.kh e.kr)]]:=by rw [if_pos ah];unfold i4 f_;rw [if_neg ah,if_pos k1];rfl
  have iG:=nz e.kh e.kr
  rw [hv,hf,c2]
  refine zO Tryz.func74 77<|zq<|zS<|zq<|zB 0<|zP 1 [{}] [.ae [10,9,3,2,1,0] [1]] []<|du 10 (e.kind == (1:Int)) fb<|zS<|zP 2 [yH [(2,yV (ai (d_ e.name)))],yH [(1,yV (ao false))]] [.ae [16,4,10,9,3,2,1,0] [1]] [yI (ez e.name hn),yB (ao (d_ e.name != (0:Int))=ao false) (by simp [c1])]<|zF 16<|a_<|zP 1 [yH [(2,yV (AV.bq [AV.own 1 (ag (di e.kh e.kr)),ai (eU e.kh)]))]] [.ae [6,5,16,4,10,9,3,2,1,0] [1021,1]] [yI (hY e.kh e.kr),yI (aR (di e.kh e.kr))]<|zS<|zQ 1 [yH [(1,yV (ao false))]] [yB (ao (eU e.kh != (0:Int))=ao false) (by simp [c2])]<|zF 25<|a_<|zP 1 [yH [(2,{av:=some (AV.own 3 (af aU [cA e.name])),b:=false}),(4,{av:=some (AV.own 3 (af aU [dX (di e.kh e.kr)])),b:=false})]] [.ae [3,2,25,6,5,16,4,10,9,1,0] [32,1]] [yI (tE e.name),yI (Bt (di e.kh e.kr) ah)]<|zR<|aY<|aI (bV)
 by_cases k2:e.kind=2
 ·have hf:eY e=d_ e.name:=by unfold eY;rw [if_neg k1,if_pos k2]
  by_cases c1:d_ e.name=0
  case neg =>
   have hv:(if eY e=0 then i4 e else [])= []:=if_neg (by rw [hf];exact c1)
   rw [hv,hf]
   refine zO Tryz.func74 77<|zq<|zS<|zq<|zB 0<|zP 1 [{}] [.ae [10,9,3,2,1,0] [1]] []<|bj 10 (e.kind == (1:Int)) bE<|zq<|du 33 (e.kind == (2:Int)) fb<|zS<|zP 2 [yH [(2,yV (ai (d_ e.name)))],yH [(1,yV (ao true))]] [.ae [39,7,33,10,9,3,2,1,0] [1]] [yI (ez e.name hn),yB (ao (d_ e.name != (0:Int))=ao true) (by simp [c1])]<|zT 39<|zq<|dk<|aY<|aI (bV)
  have hv:(if eY e=0 then i4 e else [])= [[cA e.name]]:=by rw [if_pos ah];unfold i4 f_;rw [if_neg ah,if_neg k1,if_pos k2];rfl
  rw [hv,hf,c1]
  refine zO Tryz.func74 77<|zq<|zS<|zq<|zB 0<|zP 1 [{}] [.ae [10,9,3,2,1,0] [1]] []<|bj 10 (e.kind == (1:Int)) bE<|zq<|du 33 (e.kind == (2:Int)) fb<|zS<|zP 2 [yH [(2,yV (ai (d_ e.name)))],yH [(1,yV (ao false))]] [.ae [39,7,33,10,9,3,2,1,0] [1]] [yI (ez e.name hn),yB (ao (d_ e.name != (0:Int))=ao false) (by simp [c1])]<|zF 39<|a_<|zP 1 [yH [(2,{av:=some (AV.own 3 (af aU [cA e.name])),b:=false})]] [.ae [3,2,39,7,33,10,9,1,0] [44,1]] [yI (tE e.name)]<|zR<|aY<|aI (bV)
 by_cases k3:e.kind=3
 ·have hf:eY e=if e.bt<1∨8<e.bt then 9 else 0:=by unfold eY;rw [if_neg k1,if_neg k2,if_pos k3]
  by_cases c1:e.bt<1
  ·rw [if_pos (.inl c1)] at hf
   rw [hf,if_neg ah]
   refine zO Tryz.func74 77<|zq<|zS<|zq<|zB 0<|zP 1 [{}] [.ae [10,9,3,2,1,0] [1]] []<|bj 10 (e.kind == (1:Int)) bE<|zq<|bj 33 (e.kind == (2:Int)) bE<|zP 1 [{}] [.ae [45,33,10,9,3,2,1,0] [1]] []<|du 45 (e.kind == (3:Int)) fb<|zS<|zP 1 [{}] [.ae [54,45,33,10,9,3,2,1,0] [1]] (yM 4 (yT (e.bt<1)))<|zT 54<|zq<|dk<|aY<|aI (bV)
  by_cases c2:8<e.bt
  ·rw [if_pos (.inr c2)] at hf
   rw [hf,if_neg ah]
   refine zO Tryz.func74 77<|zq<|zS<|zq<|zB 0<|zP 1 [{}] [.ae [10,9,3,2,1,0] [1]] []<|bj 10 (e.kind == (1:Int)) bE<|zq<|bj 33 (e.kind == (2:Int)) bE<|zP 1 [{}] [.ae [45,33,10,9,3,2,1,0] [1]] []<|du 45 (e.kind == (3:Int)) fb<|zS<|zP 1 [yH ([(7,{b:=false})]++yg [4,5,6])] [.ae [54,45,33,10,9,3,2,1,0] [1]] (yM 4 (yF (e.bt<1)))<|gT 54 (e.bt>8)<|zq<|dk<|aY<|aI (bV)
  rw [if_neg ah] at hf
  have hv:i4 e= [[aG (u64 e.bt)]]:=by unfold i4 f_;rw [if_neg ah,if_neg k1,if_neg k2,if_pos k3];rfl
  rw [hf,if_pos rfl,hv]
  refine zO Tryz.func74 77<|zq<|zS<|zq<|zB 0<|zP 1 [{}] [.ae [10,9,3,2,1,0] [1]] []<|bj 10 (e.kind == (1:Int)) bE<|zq<|bj 33 (e.kind == (2:Int)) bE<|zP 1 [{}] [.ae [45,33,10,9,3,2,1,0] [1]] []<|du 45 (e.kind == (3:Int)) fb<|zS<|zP 1 [yH ([(7,{b:=false})]++yg [4,5,6])] [.ae [54,45,33,10,9,3,2,1,0] [1]] (yM 4 (yF (e.bt<1)))<|dp 54 (e.bt>8)<|a_<|zP 1 [yH [(2,yV (aw (u64 e.bt))),(3,{av:=some (AV.own 3 (af aU [aG (u64 e.bt)])),b:=false})]] [.ae [3,2,54,45,33,10,9,1,0] [59,1]] [yI (a6 e.bt),yI (gW (u64 e.bt))]<|zR<|aY<|aI (bV)
 by_cases k4:e.kind=4
 ·have hf:eY e=fC e.dep:=by unfold eY;rw [if_neg k1,if_neg k2,if_neg k3,if_pos k4]
  have hv:i4 e=Mx e.dep:=if_pos k4
  rw [hf,hv]
  have IC:=vK e.dep hd
  generalize (if fC e.dep=0 then Mx e.dep else [])=V at *
  generalize fC e.dep=E at *
  refine zO Tryz.func74 77<|zq<|zS<|zq<|zB 0<|zP 1 [{}] [.ae [10,9,3,2,1,0] [1]] []<|bj 10 (e.kind == (1:Int)) bE<|zq<|bj 33 (e.kind == (2:Int)) bE<|zP 1 [{}] [.ae [45,33,10,9,3,2,1,0] [1]] []<|bj 45 (e.kind == (3:Int)) bE<|zq<|du 60 (e.kind == (4:Int)) fb<|zP 1 [yH [(2,{av:=some (AV.bq [AV.own 1 (af df V),ai E]),b:=false})]] [.ae [3,2,60,45,33,10,9,1,0] [1064,1]] [yI IC]<|zR<|aY<|aI (bV)
 have hf:eY e=if e.target=0 then 9 else 0:=by unfold eY;rw [if_neg k1,if_neg k2,if_neg k3,if_neg k4]
 by_cases c1:e.target=0
 ·rw [if_pos c1] at hf
  rw [hf,if_neg ah]
  refine zO Tryz.func74 77<|zq<|zS<|zq<|zB 0<|zP 1 [{}] [.ae [10,9,3,2,1,0] [1]] []<|bj 10 (e.kind == (1:Int)) bE<|zq<|bj 33 (e.kind == (2:Int)) bE<|zP 1 [{}] [.ae [45,33,10,9,3,2,1,0] [1]] []<|bj 45 (e.kind == (3:Int)) bE<|zq<|bj 60 (e.kind == (4:Int)) bE<|zK<|aM<|ak<|zS<|zP 1 [yH [(2,yV (ao (e.target == 0)))]] [.ae [69,60,45,33,10,9,3,2,1,0] [1]] [yI (fo e.target 0)]<|du 69 (e.target == 0) fb<|zq<|dk (bV)
 rw [if_neg c1] at hf
 have hv:i4 e= [[aG e.bR],[aG e.target]]:=by unfold i4 f_;rw [if_neg k4,if_neg k1,if_neg k2,if_neg k3,if_neg k4];rfl
 rw [hf,if_pos rfl,hv]
 refine zO Tryz.func74 77<|zq<|zS<|zq<|zB 0<|zP 1 [{}] [.ae [10,9,3,2,1,0] [1]] []<|bj 10 (e.kind == (1:Int)) bE<|zq<|bj 33 (e.kind == (2:Int)) bE<|zP 1 [{}] [.ae [45,33,10,9,3,2,1,0] [1]] []<|bj 45 (e.kind == (3:Int)) bE<|zq<|bj 60 (e.kind == (4:Int)) bE<|zK<|aM<|ak<|zS<|zP 1 [yH [(2,yV (ao (e.target == 0)))]] [.ae [69,60,45,33,10,9,3,2,1,0] [1]] [yI (fo e.target 0)]<|bj 69 (e.target == 0) bE<|a_<|zP 1 [{hs:=[(2,{av:=some (AV.own 3 (af aU [aG e.bR])),b:=false}),(5,{av:=some (AV.own 3 (af aU [aG e.target])),b:=false})],T:=5}] [.ae [3,2,69,60,45,33,10,9,1,0] [76,1]] [yI (gW e.bR),yI (gW e.target)]<|zR (bV)
theorem JE (e:eF) (hB:mN e):bK Tryz.prog 39 [.agg (aT e)] (.bq [.own 1 (ag (fA e)),ai (eu e)]):=by
 by_cases c:eu e=0
 case neg =>
  have hb:fA e= []:=if_neg c
  rw [hb]
  unfold eu
  by_cases k1:e.kind<1
  ·rw [if_pos (.inl k1)]
   refine zO Tryz.func39 60<|zq<|zS<|zP 1 [{}] [.ae [15,3,2,1,0] [1]] (yM 4 (yT (e.kind<1)))<|zT 15<|zq<|dk (bV)
  by_cases k5:5<e.kind
  ·rw [if_pos (.inr k5)]
   refine zO Tryz.func39 60<|zq<|zS<|zP 1 [yH ([(7,{b:=false})]++yg [4,5,6])] [.ae [15,3,2,1,0] [1]] (yM 4 (yF (e.kind<1)))<|gT 15 (e.kind>5)<|zq<|dk (bV)
  rw [if_neg ah]
  by_cases c1:¬fe e
  ·rw [if_pos c1]
   refine zO Tryz.func39 60<|zq<|zS<|zP 1 [yH ([(7,{b:=false})]++yg [4,5,6])] [.ae [15,3,2,1,0] [1]] (yM 4 (yF (e.kind<1)))<|dp 15 (e.kind>5)<|a_<|zS<|zP 1 [yH [(1,yV (ao (decide ¬fe e)))]] [.ae [17,15,3,2,1,0] [1]] [yI (jF e ah ah)]<|du 17 (decide ¬fe e) fb<|zq<|dk (bV)
  have vl:decide (¬fe e)=false:=decide_eq_false c1
  rw [if_neg c1]
  by_cases q1:e.aB<1
  ·rw [if_pos (.inl q1)]
   refine zO Tryz.func39 60<|zq<|zS<|zP 1 [yH ([(7,{b:=false})]++yg [4,5,6])] [.ae [15,3,2,1,0] [1]] (yM 4 (yF (e.kind<1)))<|dp 15 (e.kind>5)<|a_<|zS<|zP 1 [yH [(1,yV (ao (decide ¬fe e)))]] [.ae [17,15,3,2,1,0] [1]] [yI (jF e ah ah)]<|bj 17 (decide ¬fe e) (by assumption)<|a_<|zS<|zP 1 [{}] [.ae [25,17,15,3,2,1,0] [1]] (yM 4 (yT (e.aB<1)))<|zT 25<|zq<|dk (bV)
  by_cases q2:2147483647<e.aB
  ·rw [if_pos (.inr q2)]
   refine zO Tryz.func39 60<|zq<|zS<|zP 1 [yH ([(7,{b:=false})]++yg [4,5,6])] [.ae [15,3,2,1,0] [1]] (yM 4 (yF (e.kind<1)))<|dp 15 (e.kind>5)<|a_<|zS<|zP 1 [yH [(1,yV (ao (decide ¬fe e)))]] [.ae [17,15,3,2,1,0] [1]] [yI (jF e ah ah)]<|bj 17 (decide ¬fe e) (by assumption)<|a_<|zS<|zP 1 [yH ([(7,{b:=false})]++yg [4,5,6])] [.ae [25,17,15,3,2,1,0] [1]] (yM 4 (yF (e.aB<1)))<|gT 25 (e.aB>2147483647)<|zq<|dk (bV)
  rw [if_neg ah]
  have Ma:eY e≠0:=by
   unfold eu at c
   rwa [if_neg ah,if_neg c1,if_neg ah] at c
  have hf:=uW e ah ah hB
  rw [if_neg Ma] at hf
  refine zO Tryz.func39 60<|zq<|zS<|zP 1 [yH ([(7,{b:=false})]++yg [4,5,6])] [.ae [15,3,2,1,0] [1]] (yM 4 (yF (e.kind<1)))<|dp 15 (e.kind>5)<|a_<|zS<|zP 1 [yH [(1,yV (ao (decide ¬fe e)))]] [.ae [17,15,3,2,1,0] [1]] [yI (jF e ah ah)]<|bj 17 (decide ¬fe e) (by assumption)<|a_<|zS<|zP 1 [yH ([(7,{b:=false})]++yg [4,5,6])] [.ae [25,17,15,3,2,1,0] [1]] (yM 4 (yF (e.aB<1)))<|dp 25 (e.aB>2147483647)<|a_<|zP 1 [yH [(1,{av:=some (AV.bq [AV.own 1 (af df []),ai (eY e)]),b:=false})]] [.ae [5,4,25,17,15,3,2,1,0] [1028,1]] [yI hf]<|zS<|zQ 1 [yH [(1,yV (ao true))]] [yB (ao (eY e != (0:Int))=ao true) (by simp [Ma])]<|zT 32<|zP 1 [{}] [.ae [3,2,32,5,4,25,17,15,1,0] [1028,1]] []<|dk (bV)
 have hb:fA e=gR (fQ e):=if_pos c
 rw [hb,c]
 obtain ⟨v1,v2,v3,v4,v5,v6,v7⟩:=yX c
 unfold eu at c
 by_cases k1:e.kind<1∨5<e.kind
 ·rw [if_pos k1] at c;omega
 rw [if_neg k1] at c
 by_cases c1:¬fe e
 ·rw [if_pos c1] at c;omega
 have vl:decide (¬fe e)=false:=decide_eq_false c1
 rw [if_neg c1] at c
 by_cases q1:e.aB<1∨2147483647<e.aB
 ·rw [if_pos q1] at c;omega
 rw [if_neg q1] at c
 have hf:=uW e ah ah hB
 rw [if_pos c,c] at hf
 have ha:=rH _ v1 (by rw [List.length_append];exact v2) (by rw [v3];exact v4)
 rw [v3] at ha
 have TG:=Dg (fQ e) ah (fun x hx=>(v6 x hx).1) (fun x hx=>(v6 x hx).2)
 have hd:Gg (fQ e)=gR (fQ e):=if_pos v4
 rw [hd,v4] at TG
 have xR:(af df (i4 e)).length≤6:=by rw [aF (e:=1) (fun _=>rfl)];omega
 clear v1 v2 v3 v4 v5 v6 hd hb
 generalize fQ e=A at *
 generalize i4 e=V at *
 refine zO Tryz.func39 60<|zq<|zS<|zP 1 [yH ([(7,{b:=false})]++yg [4,5,6])] [.ae [15,3,2,1,0] [1]] (yM 4 (yF (e.kind<1)))<|dp 15 (e.kind>5)<|a_<|zS<|zP 1 [yH [(1,yV (ao (decide ¬fe e)))]] [.ae [17,15,3,2,1,0] [1]] [yI (jF e ah ah)]<|bj 17 (decide ¬fe e) (by assumption)<|a_<|zS<|zP 1 [yH ([(7,{b:=false})]++yg [4,5,6])] [.ae [25,17,15,3,2,1,0] [1]] (yM 4 (yF (e.aB<1)))<|dp 25 (e.aB>2147483647)<|a_<|zP 1 [yH [(1,{av:=some (AV.bq [AV.own 1 (af df V),ai 0]),b:=false})]] [.ae [5,4,25,17,15,3,2,1,0] [1028,1]] [yI hf]<|zS<|zq<|zF 32<|a_<|zP 2 [{hs:=[(2,yV (aw (u64 e.aB))),(3,{av:=some (AV.own 3 (af aU [aG (u64 e.aB)])),b:=false}),(6,{av:=some (AV.own 3 (af aU [aG e.prev])),b:=false}),(9,yV (aw (u64 e.kind))),(10,{av:=some (AV.own 3 (af aU [aG (u64 e.kind)])),b:=false})],T:=10},yH [(2,{b:=false}),(3,{av:=some (AV.bq [AV.sl 3 (af aU A),ai 0]),b:=false})]] [.ae [5,7,32,4,25,17,15,3,2,1,0] [1028,1]] [yI (a6 e.aB),yI (gW (u64 e.aB)),yI (gW e.prev),yI (a6 e.kind),yI (gW (u64 e.kind)),yB (cE (af df V)) (dD (fun x=>dJ rfl) _),yO ((3+(af df V).length)*24≤140737488355328),yI ha]<|zS<|zq<|zF 54<|a_<|zP 1 [yH [(1,yV (AV.bq [AV.own 1 (ag (gR A)),ai 0]))]] [.ae [3,2,54,5,7,32,4,25,17,15,1,0] [1057,1028,1]] [yI TG,yI (aR (gR A))]<|zR (bV)
theorem uO (e:eF) (c:eu e=0):(fA e).length≤500000:=by
 obtain ⟨v1,v2,v3,v4,v5,v6,v7⟩:=yX c
 unfold fA
 rw [if_pos c]
 exact Nat.le_trans (ql (fun x hx=>(v6 x hx).2) v5) (by decide)
theorem tz (e:eF) (hB:mN e):bK Tryz.prog 50 [.agg (aT e)] (.bq [aw (if eu e=0 then de e else 0),ai (eu e)]):=by
 have hb:=JE e hB
 by_cases c:eu e=0
 case neg =>
  rw [if_neg c]
  refine zO Tryz.func50 16<|zP 2 [{},yH [(1,yV (AV.bq [AV.own 1 (ag (fA e)),ai (eu e)]))]] [.ae [5,4,3,2,1,0] [1008,1]] [yI hb,yI (aR (fA e))]<|zS<|zQ 1 [yH [(1,yV (ao true))]] [yB (ao (eu e != (0:Int))=ao true) (by simp [c])]<|zT 12<|zP 1 [{}] [.ae [3,2,12,5,4,1,0] [1008,1]] []<|dk (bV)
 rw [if_pos c]
 have hl:=uO e c
 rw [c] at hb ⊢
 refine zO Tryz.func50 16<|zP 2 [{},yH [(1,yV (AV.bq [AV.own 1 (ag (fA e)),ai 0]))]] [.ae [5,4,3,2,1,0] [1008,1]] [yI hb,yI (aR (fA e))]<|zS<|zq<|zF 12<|a_<|zP 1 [yH [(1,yV (aw (hash (16:Int) (fA e))))]] [.ae [3,2,12,5,4,1,0] [1008,1]] [yI (nH ((16:Int)) (fA e))]<|zR (bV)
end Go.Proofs.YtjgbhhnghedgdaaGreatDoor
