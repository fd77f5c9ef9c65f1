import Derived.Test.YtjgbhhnghedgdaaGreatDoorZbGrB1
set_option linter.all false
namespace Go.Proofs.YtjgbhhnghedgdaaGreatDoor
open Go.RowKit
set_option maxRecDepth 100000
set_option maxHeartbeats 4000000
structure mO (e:eP):Prop where
 OW:e.name.length≤1000
 dep:yU e.dep
theorem uX (e:eP) (h1:1≤e.kind) (h5:e.kind≤5) (hB:mO e):bL Tryz.prog 74 [.agg (a7 e)] (.bt [.own 1 (ae di (if fa e=0 then i5 e else [])),ai (fa e)]):=by
 obtain ⟨hn,hd⟩:=hB
 have hz:=qI e.name hn
 by_cases k1:e.kind=1
 ·have hf:fa e=if eg e.name≠0 then eg e.name else eZ e.kh:=if_pos k1
  by_cases c1:eg e.name=0
  case neg =>
   rw [if_pos c1] at hf
   have hv:(if fa e=0 then i5 e else [])= []:=if_neg (by rw [hf];exact c1)
   rw [hv,hf]
   refine zO Tryz.func74 77<|zq<|zS<|zq<|zB 0<|zP 1 [{}] [.aa [10,9,3,2,1,0] [1]] []<|dB 10 (e.kind == (1:Int)) fg<|zS<|zP 2 [yH [(2,yV (ai (eg e.name)))],yH [(1,yV (ao true))]] [.aa [16,4,10,9,3,2,1,0] [1]] [yI (eF e.name hn),yB (ao (eg e.name != (0:Int))=ao true) (by simp [c1])]<|zT 16<|zq<|dn<|a6<|aI (bR)
  rw [if_neg aj] at hf
  by_cases c2:eZ e.kh=0
  case neg =>
   have hv:(if fa e=0 then i5 e else [])= []:=if_neg (by rw [hf];exact c2)
   rw [hv,hf]
   refine zO Tryz.func74 77<|zq<|zS<|zq<|zB 0<|zP 1 [{}] [.aa [10,9,3,2,1,0] [1]] []<|dB 10 (e.kind == (1:Int)) fg<|zS<|zP 2 [yH [(2,yV (ai (eg e.name)))],yH [(1,yV (ao false))]] [.aa [16,4,10,9,3,2,1,0] [1]] [yI (eF e.name hn),yB (ao (eg e.name != (0:Int))=ao false) (by simp [c1])]<|zF 16<|a_<|zP 1 [yH [(2,yV (AV.bt [AV.own 1 (ag (dk e.kh e.kr)),ai (eZ e.kh)]))]] [.aa [6,5,16,4,10,9,3,2,1,0] [1021,1]] [yI (ia e.kh e.kr),yI (aR (dk e.kh e.kr))]<|zS<|zQ 1 [yH [(1,yV (ao true))]] [yB (ao (eZ e.kh != (0:Int))=ao true) (by simp [c2])]<|zT 25<|zP 1 [{}] [.aa [3,2,25,6,5,16,4,10,9,1,0] [1021,1]] []<|dn<|a6<|aI (bR)
  have hv:(if fa e=0 then i5 e else [])= [[cC e.name],[dZ (dk e.kh e.kr)]]:=by rw [if_pos aj];unfold i5 gf;rw [if_neg aj,if_pos k1];rfl
  have iH:=nA e.kh e.kr
  rw [hv,hf,c2]
  refine zO Tryz.func74 77<|zq<|zS<|zq<|zB 0<|zP 1 [{}] [.aa [10,9,3,2,1,0] [1]] []<|dB 10 (e.kind == (1:Int)) fg<|zS<|zP 2 [yH [(2,yV (ai (eg e.name)))],yH [(1,yV (ao false))]] [.aa [16,4,10,9,3,2,1,0] [1]] [yI (eF e.name hn),yB (ao (eg e.name != (0:Int))=ao false) (by simp [c1])]<|zF 16<|a_<|zP 1 [yH [(2,yV (AV.bt [AV.own 1 (ag (dk e.kh e.kr)),ai (eZ e.kh)]))]] [.aa [6,5,16,4,10,9,3,2,1,0] [1021,1]] [yI (ia e.kh e.kr),yI (aR (dk e.kh e.kr))]<|zS<|zQ 1 [yH [(1,yV (ao false))]] [yB (ao (eZ e.kh != (0:Int))=ao false) (by simp [c2])]<|zF 25<|a_<|zP 1 [yH [(2,{av:=some (AV.own 3 (ae aT [cC e.name])),b:=false}),(4,{av:=some (AV.own 3 (ae aT [dZ (dk e.kh e.kr)])),b:=false})]] [.aa [3,2,25,6,5,16,4,10,9,1,0] [32,1]] [yI (tF e.name),yI (Bk (dk e.kh e.kr) aj)]<|zR<|a6<|aI (bR)
 by_cases k2:e.kind=2
 ·have hf:fa e=eg e.name:=by unfold fa;rw [if_neg k1,if_pos k2]
  by_cases c1:eg e.name=0
  case neg =>
   have hv:(if fa e=0 then i5 e else [])= []:=if_neg (by rw [hf];exact c1)
   rw [hv,hf]
   refine zO Tryz.func74 77<|zq<|zS<|zq<|zB 0<|zP 1 [{}] [.aa [10,9,3,2,1,0] [1]] []<|bn 10 (e.kind == (1:Int)) bE<|zq<|dB 33 (e.kind == (2:Int)) fg<|zS<|zP 2 [yH [(2,yV (ai (eg e.name)))],yH [(1,yV (ao true))]] [.aa [39,7,33,10,9,3,2,1,0] [1]] [yI (eF e.name hn),yB (ao (eg e.name != (0:Int))=ao true) (by simp [c1])]<|zT 39<|zq<|dn<|a6<|aI (bR)
  have hv:(if fa e=0 then i5 e else [])= [[cC e.name]]:=by rw [if_pos aj];unfold i5 gf;rw [if_neg aj,if_neg k1,if_pos k2];rfl
  rw [hv,hf,c1]
  refine zO Tryz.func74 77<|zq<|zS<|zq<|zB 0<|zP 1 [{}] [.aa [10,9,3,2,1,0] [1]] []<|bn 10 (e.kind == (1:Int)) bE<|zq<|dB 33 (e.kind == (2:Int)) fg<|zS<|zP 2 [yH [(2,yV (ai (eg e.name)))],yH [(1,yV (ao false))]] [.aa [39,7,33,10,9,3,2,1,0] [1]] [yI (eF e.name hn),yB (ao (eg e.name != (0:Int))=ao false) (by simp [c1])]<|zF 39<|a_<|zP 1 [yH [(2,{av:=some (AV.own 3 (ae aT [cC e.name])),b:=false})]] [.aa [3,2,39,7,33,10,9,1,0] [44,1]] [yI (tF e.name)]<|zR<|a6<|aI (bR)
 by_cases k3:e.kind=3
 ·have hf:fa e=if e.bA<1∨8<e.bA then 9 else 0:=by unfold fa;rw [if_neg k1,if_neg k2,if_pos k3]
  by_cases c1:e.bA<1
  ·rw [if_pos (.inl c1)] at hf
   rw [hf,if_neg aj]
   refine zO Tryz.func74 77<|zq<|zS<|zq<|zB 0<|zP 1 [{}] [.aa [10,9,3,2,1,0] [1]] []<|bn 10 (e.kind == (1:Int)) bE<|zq<|bn 33 (e.kind == (2:Int)) bE<|zP 1 [{}] [.aa [45,33,10,9,3,2,1,0] [1]] []<|dB 45 (e.kind == (3:Int)) fg<|zS<|zP 1 [{}] [.aa [54,45,33,10,9,3,2,1,0] [1]] (yM 4 (yT (e.bA<1)))<|zT 54<|zq<|dn<|a6<|aI (bR)
  by_cases c2:8<e.bA
  ·rw [if_pos (.inr c2)] at hf
   rw [hf,if_neg aj]
   refine zO Tryz.func74 77<|zq<|zS<|zq<|zB 0<|zP 1 [{}] [.aa [10,9,3,2,1,0] [1]] []<|bn 10 (e.kind == (1:Int)) bE<|zq<|bn 33 (e.kind == (2:Int)) bE<|zP 1 [{}] [.aa [45,33,10,9,3,2,1,0] [1]] []<|dB 45 (e.kind == (3:Int)) fg<|zS<|zP 1 [yH ([(7,{b:=false})]++yg [4,5,6])] [.aa [54,45,33,10,9,3,2,1,0] [1]] (yM 4 (yF (e.bA<1)))<|gU 54 (e.bA>8)<|zq<|dn<|a6<|aI (bR)
  rw [if_neg aj] at hf
  have hv:i5 e= [[aH (u64 e.bA)]]:=by unfold i5 gf;rw [if_neg aj,if_neg k1,if_neg k2,if_pos k3];rfl
  rw [hf,if_pos rfl,hv]
  refine zO Tryz.func74 77<|zq<|zS<|zq<|zB 0<|zP 1 [{}] [.aa [10,9,3,2,1,0] [1]] []<|bn 10 (e.kind == (1:Int)) bE<|zq<|bn 33 (e.kind == (2:Int)) bE<|zP 1 [{}] [.aa [45,33,10,9,3,2,1,0] [1]] []<|dB 45 (e.kind == (3:Int)) fg<|zS<|zP 1 [yH ([(7,{b:=false})]++yg [4,5,6])] [.aa [54,45,33,10,9,3,2,1,0] [1]] (yM 4 (yF (e.bA<1)))<|dt 54 (e.bA>8)<|a_<|zP 1 [yH [(2,yV (aw (u64 e.bA))),(3,{av:=some (AV.own 3 (ae aT [aH (u64 e.bA)])),b:=false})]] [.aa [3,2,54,45,33,10,9,1,0] [59,1]] [yI (aY e.bA),yI (gY (u64 e.bA))]<|zR<|a6<|aI (bR)
 by_cases k4:e.kind=4
 ·have hf:fa e=fF e.dep:=by unfold fa;rw [if_neg k1,if_neg k2,if_neg k3,if_pos k4]
  have hv:i5 e=Mk e.dep:=if_pos k4
  rw [hf,hv]
  have Iv:=vK e.dep hd
  generalize (if fF e.dep=0 then Mk e.dep else [])=V at *
  generalize fF e.dep=E at *
  refine zO Tryz.func74 77<|zq<|zS<|zq<|zB 0<|zP 1 [{}] [.aa [10,9,3,2,1,0] [1]] []<|bn 10 (e.kind == (1:Int)) bE<|zq<|bn 33 (e.kind == (2:Int)) bE<|zP 1 [{}] [.aa [45,33,10,9,3,2,1,0] [1]] []<|bn 45 (e.kind == (3:Int)) bE<|zq<|dB 60 (e.kind == (4:Int)) fg<|zP 1 [yH [(2,{av:=some (AV.bt [AV.own 1 (ae di V),ai E]),b:=false})]] [.aa [3,2,60,45,33,10,9,1,0] [1064,1]] [yI Iv]<|zR<|a6<|aI (bR)
 have hf:fa e=if e.target=0 then 9 else 0:=by unfold fa;rw [if_neg k1,if_neg k2,if_neg k3,if_neg k4]
 by_cases c1:e.target=0
 ·rw [if_pos c1] at hf
  rw [hf,if_neg aj]
  refine zO Tryz.func74 77<|zq<|zS<|zq<|zB 0<|zP 1 [{}] [.aa [10,9,3,2,1,0] [1]] []<|bn 10 (e.kind == (1:Int)) bE<|zq<|bn 33 (e.kind == (2:Int)) bE<|zP 1 [{}] [.aa [45,33,10,9,3,2,1,0] [1]] []<|bn 45 (e.kind == (3:Int)) bE<|zq<|bn 60 (e.kind == (4:Int)) bE<|zK<|aL<|aq<|zS<|zP 1 [yH [(2,yV (ao (e.target == 0)))]] [.aa [69,60,45,33,10,9,3,2,1,0] [1]] [yI (fv e.target 0)]<|dB 69 (e.target == 0) fg<|zq<|dn (bR)
 rw [if_neg c1] at hf
 have hv:i5 e= [[aH e.bZ],[aH e.target]]:=by unfold i5 gf;rw [if_neg k4,if_neg k1,if_neg k2,if_neg k3,if_neg k4];rfl
 rw [hf,if_pos rfl,hv]
 refine zO Tryz.func74 77<|zq<|zS<|zq<|zB 0<|zP 1 [{}] [.aa [10,9,3,2,1,0] [1]] []<|bn 10 (e.kind == (1:Int)) bE<|zq<|bn 33 (e.kind == (2:Int)) bE<|zP 1 [{}] [.aa [45,33,10,9,3,2,1,0] [1]] []<|bn 45 (e.kind == (3:Int)) bE<|zq<|bn 60 (e.kind == (4:Int)) bE<|zK<|aL<|aq<|zS<|zP 1 [yH [(2,yV (ao (e.target == 0)))]] [.aa [69,60,45,33,10,9,3,2,1,0] [1]] [yI (fv e.target 0)]<|bn 69 (e.target == 0) bE<|a_<|zP 1 [{hs:=[(2,{av:=some (AV.own 3 (ae aT [aH e.bZ])),b:=false}),(5,{av:=some (AV.own 3 (ae aT [aH e.target])),b:=false})],T:=5}] [.aa [3,2,69,60,45,33,10,9,1,0] [76,1]] [yI (gY e.bZ),yI (gY e.target)]<|zR (bR)
theorem Bl (e:eP) (hB:mO e):bL Tryz.prog 39 [.agg (a7 e)] (.bt [.own 1 (ag (fo e)),ai (eu e)]):=by
 by_cases c:eu e=0
 case neg =>
  have hb:fo e= []:=if_neg c
  rw [hb]
  unfold eu
  by_cases k1:e.kind<1
  ·rw [if_pos (.inl k1)]
   refine zO Tryz.func39 60<|zq<|zS<|zP 1 [{}] [.aa [15,3,2,1,0] [1]] (yM 4 (yT (e.kind<1)))<|zT 15<|zq<|dn (bR)
  by_cases k5:5<e.kind
  ·rw [if_pos (.inr k5)]
   refine zO Tryz.func39 60<|zq<|zS<|zP 1 [yH ([(7,{b:=false})]++yg [4,5,6])] [.aa [15,3,2,1,0] [1]] (yM 4 (yF (e.kind<1)))<|gU 15 (e.kind>5)<|zq<|dn (bR)
  rw [if_neg aj]
  by_cases c1:¬fi e
  ·rw [if_pos c1]
   refine zO Tryz.func39 60<|zq<|zS<|zP 1 [yH ([(7,{b:=false})]++yg [4,5,6])] [.aa [15,3,2,1,0] [1]] (yM 4 (yF (e.kind<1)))<|dt 15 (e.kind>5)<|a_<|zS<|zP 1 [yH [(1,yV (ao (decide ¬fi e)))]] [.aa [17,15,3,2,1,0] [1]] [yI (jF e aj aj)]<|dB 17 (decide ¬fi e) fg<|zq<|dn (bR)
  have vm:decide (¬fi e)=false:=decide_eq_false c1
  rw [if_neg c1]
  by_cases q1:e.aB<1
  ·rw [if_pos (.inl q1)]
   refine zO Tryz.func39 60<|zq<|zS<|zP 1 [yH ([(7,{b:=false})]++yg [4,5,6])] [.aa [15,3,2,1,0] [1]] (yM 4 (yF (e.kind<1)))<|dt 15 (e.kind>5)<|a_<|zS<|zP 1 [yH [(1,yV (ao (decide ¬fi e)))]] [.aa [17,15,3,2,1,0] [1]] [yI (jF e aj aj)]<|bn 17 (decide ¬fi e) (by assumption)<|a_<|zS<|zP 1 [{}] [.aa [25,17,15,3,2,1,0] [1]] (yM 4 (yT (e.aB<1)))<|zT 25<|zq<|dn (bR)
  by_cases q2:2147483647<e.aB
  ·rw [if_pos (.inr q2)]
   refine zO Tryz.func39 60<|zq<|zS<|zP 1 [yH ([(7,{b:=false})]++yg [4,5,6])] [.aa [15,3,2,1,0] [1]] (yM 4 (yF (e.kind<1)))<|dt 15 (e.kind>5)<|a_<|zS<|zP 1 [yH [(1,yV (ao (decide ¬fi e)))]] [.aa [17,15,3,2,1,0] [1]] [yI (jF e aj aj)]<|bn 17 (decide ¬fi e) (by assumption)<|a_<|zS<|zP 1 [yH ([(7,{b:=false})]++yg [4,5,6])] [.aa [25,17,15,3,2,1,0] [1]] (yM 4 (yF (e.aB<1)))<|gU 25 (e.aB>2147483647)<|zq<|dn (bR)
  rw [if_neg aj]
  have LX:fa e≠0:=by
   unfold eu at c
   rwa [if_neg aj,if_neg c1,if_neg aj] at c
  have hf:=uX e aj aj hB
  rw [if_neg LX] at hf
  refine zO Tryz.func39 60<|zq<|zS<|zP 1 [yH ([(7,{b:=false})]++yg [4,5,6])] [.aa [15,3,2,1,0] [1]] (yM 4 (yF (e.kind<1)))<|dt 15 (e.kind>5)<|a_<|zS<|zP 1 [yH [(1,yV (ao (decide ¬fi e)))]] [.aa [17,15,3,2,1,0] [1]] [yI (jF e aj aj)]<|bn 17 (decide ¬fi e) (by assumption)<|a_<|zS<|zP 1 [yH ([(7,{b:=false})]++yg [4,5,6])] [.aa [25,17,15,3,2,1,0] [1]] (yM 4 (yF (e.aB<1)))<|dt 25 (e.aB>2147483647)<|a_<|zP 1 [yH [(1,{av:=some (AV.bt [AV.own 1 (ae di []),ai (fa e)]),b:=false})]] [.aa [5,4,25,17,15,3,2,1,0] [1028,1]] [yI hf]<|zS<|zQ 1 [yH [(1,yV (ao true))]] [yB (ao (fa e != (0:Int))=ao true) (by simp [LX])]<|zT 32<|zP 1 [{}] [.aa [3,2,32,5,4,25,17,15,1,0] [1028,1]] []<|dn (bR)
 have hb:fo e=gB (fS e):=if_pos c
 rw [hb,c]
 obtain ⟨v1,v2,v3,v4,v5,v6,v7⟩:=yz c
 unfold eu at c
 by_cases k1:e.kind<1∨5<e.kind
 ·rw [if_pos k1] at c;omega
 rw [if_neg k1] at c
 by_cases c1:¬fi e
 ·rw [if_pos c1] at c;omega
 have vm:decide (¬fi e)=false:=decide_eq_false c1
 rw [if_neg c1] at c
 by_cases q1:e.aB<1∨2147483647<e.aB
 ·rw [if_pos q1] at c;omega
 rw [if_neg q1] at c
 have hf:=uX e aj aj hB
 rw [if_pos c,c] at hf
 have ha:=rH _ v1 (by rw [List.length_append];exact v2) (by rw [v3];exact v4)
 rw [v3] at ha
 have Ts:=C_ (fS e) aj (fun x hx=>(v6 x hx).1) (fun x hx=>(v6 x hx).2)
 have hd:F9 (fS e)=gB (fS e):=if_pos v4
 rw [hd,v4] at Ts
 have xN:(ae di (i5 e)).length≤6:=by rw [aG (e:=1) (fun _=>rfl)];omega
 clear v1 v2 v3 v4 v5 v6 hd hb
 generalize fS e=A at *
 generalize i5 e=V at *
 refine zO Tryz.func39 60<|zq<|zS<|zP 1 [yH ([(7,{b:=false})]++yg [4,5,6])] [.aa [15,3,2,1,0] [1]] (yM 4 (yF (e.kind<1)))<|dt 15 (e.kind>5)<|a_<|zS<|zP 1 [yH [(1,yV (ao (decide ¬fi e)))]] [.aa [17,15,3,2,1,0] [1]] [yI (jF e aj aj)]<|bn 17 (decide ¬fi e) (by assumption)<|a_<|zS<|zP 1 [yH ([(7,{b:=false})]++yg [4,5,6])] [.aa [25,17,15,3,2,1,0] [1]] (yM 4 (yF (e.aB<1)))<|dt 25 (e.aB>2147483647)<|a_<|zP 1 [yH [(1,{av:=some (AV.bt [AV.own 1 (ae di V),ai 0]),b:=false})]] [.aa [5,4,25,17,15,3,2,1,0] [1028,1]] [yI hf]<|zS<|zq<|zF 32<|a_<|zP 2 [{hs:=[(2,yV (aw (u64 e.aB))),(3,{av:=some (AV.own 3 (ae aT [aH (u64 e.aB)])),b:=false}),(6,{av:=some (AV.own 3 (ae aT [aH e.prev])),b:=false}),(9,yV (aw (u64 e.kind))),(10,{av:=some (AV.own 3 (ae aT [aH (u64 e.kind)])),b:=false})],T:=10},yH [(2,{b:=false}),(3,{av:=some (AV.bt [AV.sl 3 (ae aT A),ai 0]),b:=false})]] [.aa [5,7,32,4,25,17,15,3,2,1,0] [1028,1]] [yI (aY e.aB),yI (gY (u64 e.aB)),yI (gY e.prev),yI (aY e.kind),yI (gY (u64 e.kind)),yB (cI (ae di V)) (dG (fun x=>dN rfl) _),yO ((3+(ae di V).length)*24≤140737488355328),yI ha]<|zS<|zq<|zF 54<|a_<|zP 1 [yH [(1,yV (AV.bt [AV.own 1 (ag (gB A)),ai 0]))]] [.aa [3,2,54,5,7,32,4,25,17,15,1,0] [1057,1028,1]] [yI Ts,yI (aR (gB A))]<|zR (bR)
theorem qd (e:eP) (c:eu e=0):(fo e).length≤500000:=by
 obtain ⟨v1,v2,v3,v4,v5,v6,v7⟩:=yz c
 unfold fo
 rw [if_pos c]
 exact Nat.le_trans (ql (fun x hx=>(v6 x hx).2) v5) (by decide)
theorem tA (e:eP) (hB:mO e):bL Tryz.prog 50 [.agg (a7 e)] (.bt [aw (if eu e=0 then df e else 0),ai (eu e)]):=by
 have hb:=Bl e hB
 by_cases c:eu e=0
 case neg =>
  rw [if_neg c]
  refine zO Tryz.func50 16<|zP 2 [{},yH [(1,yV (AV.bt [AV.own 1 (ag (fo e)),ai (eu e)]))]] [.aa [5,4,3,2,1,0] [1008,1]] [yI hb,yI (aR (fo e))]<|zS<|zQ 1 [yH [(1,yV (ao true))]] [yB (ao (eu e != (0:Int))=ao true) (by simp [c])]<|zT 12<|zP 1 [{}] [.aa [3,2,12,5,4,1,0] [1008,1]] []<|dn (bR)
 rw [if_pos c]
 have hl:=qd e c
 rw [c] at hb ⊢
 refine zO Tryz.func50 16<|zP 2 [{},yH [(1,yV (AV.bt [AV.own 1 (ag (fo e)),ai 0]))]] [.aa [5,4,3,2,1,0] [1008,1]] [yI hb,yI (aR (fo e))]<|zS<|zq<|zF 12<|a_<|zP 1 [yH [(1,yV (aw (hash (16:Int) (fo e))))]] [.aa [3,2,12,5,4,1,0] [1008,1]] [yI (nI ((16:Int)) (fo e))]<|zR (bR)
end Go.Proofs.YtjgbhhnghedgdaaGreatDoor
