import Derived.Test.YtjgbhhnghedgdaaGreatDoorZmGrB1
set_option linter.all false
namespace Go.Proofs.YtjgbhhnghedgdaaGreatDoor
open Go.RowKit
set_option maxRecDepth 100000
set_option maxHeartbeats 4000000
structure mY (e:dP):Prop where
 QZ:e.name.length≤1000
 dep:zZ e.dep
theorem vj (e:dP) (h1:1≤e.kind) (h5:e.kind≤5) (hB:mY e):bC Tryz.prog 74 [.agg (aI e)] (.bk [.own 1 (ae dj (if fb e=0 then i5 e else [])),ai (fb e)]):=by
 obtain ⟨hn,hd⟩:=hB
 have hz:=qV e.name hn
 by_cases k1:e.kind=1
 ·have hf:fb e=if eh e.name≠0 then eh e.name else e_ e.kh:=if_pos k1
  by_cases c1:eh e.name=0
  case neg =>
   rw [if_pos c1] at hf
   have hv:(if fb e=0 then i5 e else [])= []:=if_neg (by rw [hf];exact c1)
   rw [hv,hf]
   refine zO Tryz.func74 77<|zq<|zS<|zq<|zB 0<|zP 1 [{}] [.aa [10,9,3,2,1,0] [1]] []<|dm 10 (e.kind == (1:Int)) eg<|zS<|zP 2 [yH [(2,yV (ai (eh e.name)))],yH [(1,yV (ao true))]] [.aa [16,4,10,9,3,2,1,0] [1]] [yI (eE e.name hn),yB (ao (eh e.name != (0:Int))=ao true) (by simp [c1])]<|zT 16<|zq<|dd<|bc<|aN (bL)
  rw [if_neg ah] at hf
  by_cases c2:e_ e.kh=0
  case neg =>
   have hv:(if fb e=0 then i5 e else [])= []:=if_neg (by rw [hf];exact c2)
   rw [hv,hf]
   refine zO Tryz.func74 77<|zq<|zS<|zq<|zB 0<|zP 1 [{}] [.aa [10,9,3,2,1,0] [1]] []<|dm 10 (e.kind == (1:Int)) eg<|zS<|zP 2 [yH [(2,yV (ai (eh e.name)))],yH [(1,yV (ao false))]] [.aa [16,4,10,9,3,2,1,0] [1]] [yI (eE e.name hn),yB (ao (eh e.name != (0:Int))=ao false) (by simp [c1])]<|zF 16<|aW<|zP 1 [yH [(2,yV (AV.bk [AV.own 1 (ag (dh e.kh e.kr)),ai (e_ e.kh)]))]] [.aa [6,5,16,4,10,9,3,2,1,0] [1021,1]] [yI (h_ e.kh e.kr),yI (aP (dh e.kh e.kr))]<|zS<|zQ 1 [yH [(1,yV (ao true))]] [yB (ao (e_ e.kh != (0:Int))=ao true) (by simp [c2])]<|zT 25<|zP 1 [{}] [.aa [3,2,25,6,5,16,4,10,9,1,0] [1021,1]] []<|dd<|bc<|aN (bL)
  have hv:(if fb e=0 then i5 e else [])= [[cz e.name],[dY (dh e.kh e.kr)]]:=by rw [if_pos ah];unfold i5 gl;rw [if_neg ah,if_pos k1];rfl
  have iH:=nH e.kh e.kr
  rw [hv,hf,c2]
  refine zO Tryz.func74 77<|zq<|zS<|zq<|zB 0<|zP 1 [{}] [.aa [10,9,3,2,1,0] [1]] []<|dm 10 (e.kind == (1:Int)) eg<|zS<|zP 2 [yH [(2,yV (ai (eh e.name)))],yH [(1,yV (ao false))]] [.aa [16,4,10,9,3,2,1,0] [1]] [yI (eE e.name hn),yB (ao (eh e.name != (0:Int))=ao false) (by simp [c1])]<|zF 16<|aW<|zP 1 [yH [(2,yV (AV.bk [AV.own 1 (ag (dh e.kh e.kr)),ai (e_ e.kh)]))]] [.aa [6,5,16,4,10,9,3,2,1,0] [1021,1]] [yI (h_ e.kh e.kr),yI (aP (dh e.kh e.kr))]<|zS<|zQ 1 [yH [(1,yV (ao false))]] [yB (ao (e_ e.kh != (0:Int))=ao false) (by simp [c2])]<|zF 25<|aW<|zP 1 [yH [(2,{av:=some (AV.own 3 (ae aY [cz e.name])),b:=false}),(4,{av:=some (AV.own 3 (ae aY [dY (dh e.kh e.kr)])),b:=false})]] [.aa [3,2,25,6,5,16,4,10,9,1,0] [32,1]] [yI (tS e.name),yI (B6 (dh e.kh e.kr) ah)]<|zR<|bc<|aN (bL)
 by_cases k2:e.kind=2
 ·have hf:fb e=eh e.name:=by unfold fb;rw [if_neg k1,if_pos k2]
  by_cases c1:eh e.name=0
  case neg =>
   have hv:(if fb e=0 then i5 e else [])= []:=if_neg (by rw [hf];exact c1)
   rw [hv,hf]
   refine zO Tryz.func74 77<|zq<|zS<|zq<|zB 0<|zP 1 [{}] [.aa [10,9,3,2,1,0] [1]] []<|bj 10 (e.kind == (1:Int)) bD<|zq<|dm 33 (e.kind == (2:Int)) eg<|zS<|zP 2 [yH [(2,yV (ai (eh e.name)))],yH [(1,yV (ao true))]] [.aa [39,7,33,10,9,3,2,1,0] [1]] [yI (eE e.name hn),yB (ao (eh e.name != (0:Int))=ao true) (by simp [c1])]<|zT 39<|zq<|dd<|bc<|aN (bL)
  have hv:(if fb e=0 then i5 e else [])= [[cz e.name]]:=by rw [if_pos ah];unfold i5 gl;rw [if_neg ah,if_neg k1,if_pos k2];rfl
  rw [hv,hf,c1]
  refine zO Tryz.func74 77<|zq<|zS<|zq<|zB 0<|zP 1 [{}] [.aa [10,9,3,2,1,0] [1]] []<|bj 10 (e.kind == (1:Int)) bD<|zq<|dm 33 (e.kind == (2:Int)) eg<|zS<|zP 2 [yH [(2,yV (ai (eh e.name)))],yH [(1,yV (ao false))]] [.aa [39,7,33,10,9,3,2,1,0] [1]] [yI (eE e.name hn),yB (ao (eh e.name != (0:Int))=ao false) (by simp [c1])]<|zF 39<|aW<|zP 1 [yH [(2,{av:=some (AV.own 3 (ae aY [cz e.name])),b:=false})]] [.aa [3,2,39,7,33,10,9,1,0] [44,1]] [yI (tS e.name)]<|zR<|bc<|aN (bL)
 by_cases k3:e.kind=3
 ·have hf:fb e=if e.br<1∨8<e.br then 9 else 0:=by unfold fb;rw [if_neg k1,if_neg k2,if_pos k3]
  by_cases c1:e.br<1
  ·rw [if_pos (.inl c1)] at hf
   rw [hf,if_neg ah]
   refine zO Tryz.func74 77<|zq<|zS<|zq<|zB 0<|zP 1 [{}] [.aa [10,9,3,2,1,0] [1]] []<|bj 10 (e.kind == (1:Int)) bD<|zq<|bj 33 (e.kind == (2:Int)) bD<|zP 1 [{}] [.aa [45,33,10,9,3,2,1,0] [1]] []<|dm 45 (e.kind == (3:Int)) eg<|zS<|zP 1 [{}] [.aa [54,45,33,10,9,3,2,1,0] [1]] (yM 4 (yT (e.br<1)))<|zT 54<|zq<|dd<|bc<|aN (bL)
  by_cases c2:8<e.br
  ·rw [if_pos (.inr c2)] at hf
   rw [hf,if_neg ah]
   refine zO Tryz.func74 77<|zq<|zS<|zq<|zB 0<|zP 1 [{}] [.aa [10,9,3,2,1,0] [1]] []<|bj 10 (e.kind == (1:Int)) bD<|zq<|bj 33 (e.kind == (2:Int)) bD<|zP 1 [{}] [.aa [45,33,10,9,3,2,1,0] [1]] []<|dm 45 (e.kind == (3:Int)) eg<|zS<|zP 1 [yH ([(7,{b:=false})]++yg [4,5,6])] [.aa [54,45,33,10,9,3,2,1,0] [1]] (yM 4 (yF (e.br<1)))<|gN 54 (e.br>8)<|zq<|dd<|bc<|aN (bL)
  rw [if_neg ah] at hf
  have hv:i5 e= [[aJ (u64 e.br)]]:=by unfold i5 gl;rw [if_neg ah,if_neg k1,if_neg k2,if_pos k3];rfl
  rw [hf,if_pos rfl,hv]
  refine zO Tryz.func74 77<|zq<|zS<|zq<|zB 0<|zP 1 [{}] [.aa [10,9,3,2,1,0] [1]] []<|bj 10 (e.kind == (1:Int)) bD<|zq<|bj 33 (e.kind == (2:Int)) bD<|zP 1 [{}] [.aa [45,33,10,9,3,2,1,0] [1]] []<|dm 45 (e.kind == (3:Int)) eg<|zS<|zP 1 [yH ([(7,{b:=false})]++yg [4,5,6])] [.aa [54,45,33,10,9,3,2,1,0] [1]] (yM 4 (yF (e.br<1)))<|dq 54 (e.br>8)<|aW<|zP 1 [yH [(2,yV (aw (u64 e.br))),(3,{av:=some (AV.own 3 (ae aY [aJ (u64 e.br)])),b:=false})]] [.aa [3,2,54,45,33,10,9,1,0] [59,1]] [yI (ba e.br),yI (gX (u64 e.br))]<|zR<|bc<|aN (bL)
 by_cases k4:e.kind=4
 ·have hf:fb e=fH e.dep:=by unfold fb;rw [if_neg k1,if_neg k2,if_neg k3,if_pos k4]
  have hv:i5 e=MU e.dep:=if_pos k4
  rw [hf,hv]
  have I9:=wm e.dep hd
  generalize (if fH e.dep=0 then MU e.dep else [])=V at *
  generalize fH e.dep=E at *
  refine zO Tryz.func74 77<|zq<|zS<|zq<|zB 0<|zP 1 [{}] [.aa [10,9,3,2,1,0] [1]] []<|bj 10 (e.kind == (1:Int)) bD<|zq<|bj 33 (e.kind == (2:Int)) bD<|zP 1 [{}] [.aa [45,33,10,9,3,2,1,0] [1]] []<|bj 45 (e.kind == (3:Int)) bD<|zq<|dm 60 (e.kind == (4:Int)) eg<|zP 1 [yH [(2,{av:=some (AV.bk [AV.own 1 (ae dj V),ai E]),b:=false})]] [.aa [3,2,60,45,33,10,9,1,0] [1064,1]] [yI I9]<|zR<|bc<|aN (bL)
 have hf:fb e=if e.target=0 then 9 else 0:=by unfold fb;rw [if_neg k1,if_neg k2,if_neg k3,if_neg k4]
 by_cases c1:e.target=0
 ·rw [if_pos c1] at hf
  rw [hf,if_neg ah]
  refine zO Tryz.func74 77<|zq<|zS<|zq<|zB 0<|zP 1 [{}] [.aa [10,9,3,2,1,0] [1]] []<|bj 10 (e.kind == (1:Int)) bD<|zq<|bj 33 (e.kind == (2:Int)) bD<|zP 1 [{}] [.aa [45,33,10,9,3,2,1,0] [1]] []<|bj 45 (e.kind == (3:Int)) bD<|zq<|bj 60 (e.kind == (4:Int)) bD<|zK<|aM<|ak<|zS<|zP 1 [yH [(2,yV (ao (e.target == 0)))]] [.aa [69,60,45,33,10,9,3,2,1,0] [1]] [yI (fw e.target 0)]<|dm 69 (e.target == 0) eg<|zq<|dd (bL)
 rw [if_neg c1] at hf
 have hv:i5 e= [[aJ e.bY],[aJ e.target]]:=by unfold i5 gl;rw [if_neg k4,if_neg k1,if_neg k2,if_neg k3,if_neg k4];rfl
 rw [hf,if_pos rfl,hv]
 refine zO Tryz.func74 77<|zq<|zS<|zq<|zB 0<|zP 1 [{}] [.aa [10,9,3,2,1,0] [1]] []<|bj 10 (e.kind == (1:Int)) bD<|zq<|bj 33 (e.kind == (2:Int)) bD<|zP 1 [{}] [.aa [45,33,10,9,3,2,1,0] [1]] []<|bj 45 (e.kind == (3:Int)) bD<|zq<|bj 60 (e.kind == (4:Int)) bD<|zK<|aM<|ak<|zS<|zP 1 [yH [(2,yV (ao (e.target == 0)))]] [.aa [69,60,45,33,10,9,3,2,1,0] [1]] [yI (fw e.target 0)]<|bj 69 (e.target == 0) bD<|aW<|zP 1 [{hs:=[(2,{av:=some (AV.own 3 (ae aY [aJ e.bY])),b:=false}),(5,{av:=some (AV.own 3 (ae aY [aJ e.target])),b:=false})],T:=5}] [.aa [3,2,69,60,45,33,10,9,1,0] [76,1]] [yI (gX e.bY),yI (gX e.target)]<|zR (bL)
theorem vH (e:dP) (hB:mY e):bC Tryz.prog 39 [.agg (aI e)] (.bk [.own 1 (ag (bN e)),ai (dH e)]):=by
 by_cases c:dH e=0
 case neg =>
  have hb:bN e= []:=if_neg c
  rw [hb]
  unfold dH
  by_cases k1:e.kind<1
  ·rw [if_pos (.inl k1)]
   refine zO Tryz.func39 60<|zq<|zS<|zP 1 [{}] [.aa [15,3,2,1,0] [1]] (yM 4 (yT (e.kind<1)))<|zT 15<|zq<|dd (bL)
  by_cases k5:5<e.kind
  ·rw [if_pos (.inr k5)]
   refine zO Tryz.func39 60<|zq<|zS<|zP 1 [yH ([(7,{b:=false})]++yg [4,5,6])] [.aa [15,3,2,1,0] [1]] (yM 4 (yF (e.kind<1)))<|gN 15 (e.kind>5)<|zq<|dd (bL)
  rw [if_neg ah]
  by_cases c1:¬fk e
  ·rw [if_pos c1]
   refine zO Tryz.func39 60<|zq<|zS<|zP 1 [yH ([(7,{b:=false})]++yg [4,5,6])] [.aa [15,3,2,1,0] [1]] (yM 4 (yF (e.kind<1)))<|dq 15 (e.kind>5)<|aW<|zS<|zP 1 [yH [(1,yV (ao (decide ¬fk e)))]] [.aa [17,15,3,2,1,0] [1]] [yI (jH e ah ah)]<|dm 17 (decide ¬fk e) eg<|zq<|dd (bL)
  have vG:decide (¬fk e)=false:=decide_eq_false c1
  rw [if_neg c1]
  by_cases q1:e.aA<1
  ·rw [if_pos (.inl q1)]
   refine zO Tryz.func39 60<|zq<|zS<|zP 1 [yH ([(7,{b:=false})]++yg [4,5,6])] [.aa [15,3,2,1,0] [1]] (yM 4 (yF (e.kind<1)))<|dq 15 (e.kind>5)<|aW<|zS<|zP 1 [yH [(1,yV (ao (decide ¬fk e)))]] [.aa [17,15,3,2,1,0] [1]] [yI (jH e ah ah)]<|bj 17 (decide ¬fk e) (by assumption)<|aW<|zS<|zP 1 [{}] [.aa [25,17,15,3,2,1,0] [1]] (yM 4 (yT (e.aA<1)))<|zT 25<|zq<|dd (bL)
  by_cases q2:2147483647<e.aA
  ·rw [if_pos (.inr q2)]
   refine zO Tryz.func39 60<|zq<|zS<|zP 1 [yH ([(7,{b:=false})]++yg [4,5,6])] [.aa [15,3,2,1,0] [1]] (yM 4 (yF (e.kind<1)))<|dq 15 (e.kind>5)<|aW<|zS<|zP 1 [yH [(1,yV (ao (decide ¬fk e)))]] [.aa [17,15,3,2,1,0] [1]] [yI (jH e ah ah)]<|bj 17 (decide ¬fk e) (by assumption)<|aW<|zS<|zP 1 [yH ([(7,{b:=false})]++yg [4,5,6])] [.aa [25,17,15,3,2,1,0] [1]] (yM 4 (yF (e.aA<1)))<|gN 25 (e.aA>2147483647)<|zq<|dd (bL)
  rw [if_neg ah]
  have Mx:fb e≠0:=by
   unfold dH at c
   rwa [if_neg ah,if_neg c1,if_neg ah] at c
  have hf:=vj e ah ah hB
  rw [if_neg Mx] at hf
  refine zO Tryz.func39 60<|zq<|zS<|zP 1 [yH ([(7,{b:=false})]++yg [4,5,6])] [.aa [15,3,2,1,0] [1]] (yM 4 (yF (e.kind<1)))<|dq 15 (e.kind>5)<|aW<|zS<|zP 1 [yH [(1,yV (ao (decide ¬fk e)))]] [.aa [17,15,3,2,1,0] [1]] [yI (jH e ah ah)]<|bj 17 (decide ¬fk e) (by assumption)<|aW<|zS<|zP 1 [yH ([(7,{b:=false})]++yg [4,5,6])] [.aa [25,17,15,3,2,1,0] [1]] (yM 4 (yF (e.aA<1)))<|dq 25 (e.aA>2147483647)<|aW<|zP 1 [yH [(1,{av:=some (AV.bk [AV.own 1 (ae dj []),ai (fb e)]),b:=false})]] [.aa [5,4,25,17,15,3,2,1,0] [1028,1]] [yI hf]<|zS<|zQ 1 [yH [(1,yV (ao true))]] [yB (ao (fb e != (0:Int))=ao true) (by simp [Mx])]<|zT 32<|zP 1 [{}] [.aa [3,2,32,5,4,25,17,15,1,0] [1028,1]] []<|dd (bL)
 have hb:bN e=gT (fZ e):=if_pos c
 rw [hb,c]
 obtain ⟨v1,v2,v3,v4,v5,v6,v7⟩:=zz c
 unfold dH at c
 by_cases k1:e.kind<1∨5<e.kind
 ·rw [if_pos k1] at c;omega
 rw [if_neg k1] at c
 by_cases c1:¬fk e
 ·rw [if_pos c1] at c;omega
 have vG:decide (¬fk e)=false:=decide_eq_false c1
 rw [if_neg c1] at c
 by_cases q1:e.aA<1∨2147483647<e.aA
 ·rw [if_pos q1] at c;omega
 rw [if_neg q1] at c
 have hf:=vj e ah ah hB
 rw [if_pos c,c] at hf
 have ha:=rX _ v1 (by rw [List.length_append];exact v2) (by rw [v3];exact v4)
 rw [v3] at ha
 have T7:=DP (fZ e) ah (fun x hx=>(v6 x hx).1) (fun x hx=>(v6 x hx).2)
 have hd:GM (fZ e)=gT (fZ e):=if_pos v4
 rw [hd,v4] at T7
 have yx:(ae dj (i5 e)).length≤6:=by rw [aE (e:=1) (fun _=>rfl)];omega
 clear v1 v2 v3 v4 v5 v6 hd hb
 generalize fZ e=A at *
 generalize i5 e=V at *
 refine zO Tryz.func39 60<|zq<|zS<|zP 1 [yH ([(7,{b:=false})]++yg [4,5,6])] [.aa [15,3,2,1,0] [1]] (yM 4 (yF (e.kind<1)))<|dq 15 (e.kind>5)<|aW<|zS<|zP 1 [yH [(1,yV (ao (decide ¬fk e)))]] [.aa [17,15,3,2,1,0] [1]] [yI (jH e ah ah)]<|bj 17 (decide ¬fk e) (by assumption)<|aW<|zS<|zP 1 [yH ([(7,{b:=false})]++yg [4,5,6])] [.aa [25,17,15,3,2,1,0] [1]] (yM 4 (yF (e.aA<1)))<|dq 25 (e.aA>2147483647)<|aW<|zP 1 [yH [(1,{av:=some (AV.bk [AV.own 1 (ae dj V),ai 0]),b:=false})]] [.aa [5,4,25,17,15,3,2,1,0] [1028,1]] [yI hf]<|zS<|zq<|zF 32<|aW<|zP 2 [{hs:=[(2,yV (aw (u64 e.aA))),(3,{av:=some (AV.own 3 (ae aY [aJ (u64 e.aA)])),b:=false}),(6,{av:=some (AV.own 3 (ae aY [aJ e.prev])),b:=false}),(9,yV (aw (u64 e.kind))),(10,{av:=some (AV.own 3 (ae aY [aJ (u64 e.kind)])),b:=false})],T:=10},yH [(2,{b:=false}),(3,{av:=some (AV.bk [AV.sl 3 (ae aY A),ai 0]),b:=false})]] [.aa [5,7,32,4,25,17,15,3,2,1,0] [1028,1]] [yI (ba e.aA),yI (gX (u64 e.aA)),yI (gX e.prev),yI (ba e.kind),yI (gX (u64 e.kind)),yB (cE (ae dj V)) (dD (fun x=>dL rfl) _),yO ((3+(ae dj V).length)*24≤140737488355328),yI ha]<|zS<|zq<|zF 54<|aW<|zP 1 [yH [(1,yV (AV.bk [AV.own 1 (ag (gT A)),ai 0]))]] [.aa [3,2,54,5,7,32,4,25,17,15,1,0] [1057,1028,1]] [yI T7,yI (aP (gT A))]<|zR (bL)
theorem qq (e:dP) (c:dH e=0):(bN e).length≤500000:=by
 obtain ⟨v1,v2,v3,v4,v5,v6,v7⟩:=zz c
 unfold bN
 rw [if_pos c]
 exact Nat.le_trans (qB (fun x hx=>(v6 x hx).2) v5) (by decide)
theorem tN (e:dP) (hB:mY e):bC Tryz.prog 50 [.agg (aI e)] (.bk [aw (if dH e=0 then di e else 0),ai (dH e)]):=by
 have hb:=vH e hB
 by_cases c:dH e=0
 case neg =>
  rw [if_neg c]
  refine zO Tryz.func50 16<|zP 2 [{},yH [(1,yV (AV.bk [AV.own 1 (ag (bN e)),ai (dH e)]))]] [.aa [5,4,3,2,1,0] [1008,1]] [yI hb,yI (aP (bN e))]<|zS<|zQ 1 [yH [(1,yV (ao true))]] [yB (ao (dH e != (0:Int))=ao true) (by simp [c])]<|zT 12<|zP 1 [{}] [.aa [3,2,12,5,4,1,0] [1008,1]] []<|dd (bL)
 rw [if_pos c]
 have hl:=qq e c
 rw [c] at hb ⊢
 refine zO Tryz.func50 16<|zP 2 [{},yH [(1,yV (AV.bk [AV.own 1 (ag (bN e)),ai 0]))]] [.aa [5,4,3,2,1,0] [1008,1]] [yI hb,yI (aP (bN e))]<|zS<|zq<|zF 12<|aW<|zP 1 [yH [(1,yV (aw (hash (16:Int) (bN e))))]] [.aa [3,2,12,5,4,1,0] [1008,1]] [yI (nQ ((16:Int)) (bN e))]<|zR (bL)
end Go.Proofs.YtjgbhhnghedgdaaGreatDoor
