import Derived.Test.YtjgbhhnghedgdaaGreatDoorZsGrB1
set_option linter.all false
namespace Go.Proofs.YtjgbhhnghedgdaaGreatDoor
open Go.RowKit
set_option maxRecDepth 100000
set_option maxHeartbeats 4000000
structure ob (e:eK):Prop where
 Qc:e.name.length≤1000
 dep:yh e.dep
theorem uF (e:eK) (h1:1≤e.kind) (h5:e.kind≤5) (hB:ob e):bK Tryz.prog 74 [.agg (bk e)] (.br [.own 1 (af cV (if eF e=0 then iQ e else [])),ai (eF e)]):=by
 obtain ⟨hn,hd⟩:=hB
 have hz:=qn e.name hn
 by_cases k1:e.kind=1
 ·have hf:eF e=if dG e.name≠0 then dG e.name else eE e.kh:=if_pos k1
  by_cases c1:dG e.name=0
  case neg =>
   rw [if_pos c1] at hf
   have hv:(if eF e=0 then iQ e else [])= []:=if_neg (by rw [hf];exact c1)
   rw [hv,hf]
   refine zO Tryz.func74 77<|zq<|zS<|zq<|zB 0<|zP 1 [{}] [.aa [10,9,3,2,1,0] [1]] []<|dQ 10 (e.kind == (1:Int)) fX<|zS<|zP 2 [yH [(2,yV (ai (dG e.name)))],yH [(1,yV (ao true))]] [.aa [16,4,10,9,3,2,1,0] [1]] [yI (dR e.name hn),yB (ao (dG e.name != (0:Int))=ao true) (by simp [c1])]<|zT 16<|zq<|dW<|bl<|aW (cE)
  rw [if_neg ah] at hf
  by_cases c2:eE e.kh=0
  case neg =>
   have hv:(if eF e=0 then iQ e else [])= []:=if_neg (by rw [hf];exact c2)
   rw [hv,hf]
   refine zO Tryz.func74 77<|zq<|zS<|zq<|zB 0<|zP 1 [{}] [.aa [10,9,3,2,1,0] [1]] []<|dQ 10 (e.kind == (1:Int)) fX<|zS<|zP 2 [yH [(2,yV (ai (dG e.name)))],yH [(1,yV (ao false))]] [.aa [16,4,10,9,3,2,1,0] [1]] [yI (dR e.name hn),yB (ao (dG e.name != (0:Int))=ao false) (by simp [c1])]<|zF 16<|a8<|zP 1 [yH [(2,yV (AV.br [AV.own 1 (ag (cT e.kh e.kr)),ai (eE e.kh)]))]] [.aa [6,5,16,4,10,9,3,2,1,0] [1021,1]] [yI (gR e.kh e.kr),yI (aV (cT e.kh e.kr))]<|zS<|zQ 1 [yH [(1,yV (ao true))]] [yB (ao (eE e.kh != (0:Int))=ao true) (by simp [c2])]<|zT 25<|zP 1 [{}] [.aa [3,2,25,6,5,16,4,10,9,1,0] [1021,1]] []<|dW<|bl<|aW (cE)
  have hv:(if eF e=0 then iQ e else [])= [[b_ e.name],[dC (cT e.kh e.kr)]]:=by rw [if_pos ah];unfold iQ fU;rw [if_neg ah,if_pos k1];rfl
  have iw:=na e.kh e.kr
  rw [hv,hf,c2]
  refine zO Tryz.func74 77<|zq<|zS<|zq<|zB 0<|zP 1 [{}] [.aa [10,9,3,2,1,0] [1]] []<|dQ 10 (e.kind == (1:Int)) fX<|zS<|zP 2 [yH [(2,yV (ai (dG e.name)))],yH [(1,yV (ao false))]] [.aa [16,4,10,9,3,2,1,0] [1]] [yI (dR e.name hn),yB (ao (dG e.name != (0:Int))=ao false) (by simp [c1])]<|zF 16<|a8<|zP 1 [yH [(2,yV (AV.br [AV.own 1 (ag (cT e.kh e.kr)),ai (eE e.kh)]))]] [.aa [6,5,16,4,10,9,3,2,1,0] [1021,1]] [yI (gR e.kh e.kr),yI (aV (cT e.kh e.kr))]<|zS<|zQ 1 [yH [(1,yV (ao false))]] [yB (ao (eE e.kh != (0:Int))=ao false) (by simp [c2])]<|zF 25<|a8<|zP 1 [yH [(2,{av:=some (AV.own 3 (af aU [b_ e.name])),b:=false}),(4,{av:=some (AV.own 3 (af aU [dC (cT e.kh e.kr)])),b:=false})]] [.aa [3,2,25,6,5,16,4,10,9,1,0] [32,1]] [yI (tl e.name),yI (AW (cT e.kh e.kr) ah)]<|zR<|bl<|aW (cE)
 by_cases k2:e.kind=2
 ·have hf:eF e=dG e.name:=by unfold eF;rw [if_neg k1,if_pos k2]
  by_cases c1:dG e.name=0
  case neg =>
   have hv:(if eF e=0 then iQ e else [])= []:=if_neg (by rw [hf];exact c1)
   rw [hv,hf]
   refine zO Tryz.func74 77<|zq<|zS<|zq<|zB 0<|zP 1 [{}] [.aa [10,9,3,2,1,0] [1]] []<|bo 10 (e.kind == (1:Int)) bR<|zq<|dQ 33 (e.kind == (2:Int)) fX<|zS<|zP 2 [yH [(2,yV (ai (dG e.name)))],yH [(1,yV (ao true))]] [.aa [39,7,33,10,9,3,2,1,0] [1]] [yI (dR e.name hn),yB (ao (dG e.name != (0:Int))=ao true) (by simp [c1])]<|zT 39<|zq<|dW<|bl<|aW (cE)
  have hv:(if eF e=0 then iQ e else [])= [[b_ e.name]]:=by rw [if_pos ah];unfold iQ fU;rw [if_neg ah,if_neg k1,if_pos k2];rfl
  rw [hv,hf,c1]
  refine zO Tryz.func74 77<|zq<|zS<|zq<|zB 0<|zP 1 [{}] [.aa [10,9,3,2,1,0] [1]] []<|bo 10 (e.kind == (1:Int)) bR<|zq<|dQ 33 (e.kind == (2:Int)) fX<|zS<|zP 2 [yH [(2,yV (ai (dG e.name)))],yH [(1,yV (ao false))]] [.aa [39,7,33,10,9,3,2,1,0] [1]] [yI (dR e.name hn),yB (ao (dG e.name != (0:Int))=ao false) (by simp [c1])]<|zF 39<|a8<|zP 1 [yH [(2,{av:=some (AV.own 3 (af aU [b_ e.name])),b:=false})]] [.aa [3,2,39,7,33,10,9,1,0] [44,1]] [yI (tl e.name)]<|zR<|bl<|aW (cE)
 by_cases k3:e.kind=3
 ·have hf:eF e=if e.bB<1∨8<e.bB then 9 else 0:=by unfold eF;rw [if_neg k1,if_neg k2,if_pos k3]
  by_cases c1:e.bB<1
  ·rw [if_pos (.inl c1)] at hf
   rw [hf,if_neg ah]
   refine zO Tryz.func74 77<|zq<|zS<|zq<|zB 0<|zP 1 [{}] [.aa [10,9,3,2,1,0] [1]] []<|bo 10 (e.kind == (1:Int)) bR<|zq<|bo 33 (e.kind == (2:Int)) bR<|zP 1 [{}] [.aa [45,33,10,9,3,2,1,0] [1]] []<|dQ 45 (e.kind == (3:Int)) fX<|zS<|zP 1 [{}] [.aa [54,45,33,10,9,3,2,1,0] [1]] (yM 4 (yT (e.bB<1)))<|zT 54<|zq<|dW<|bl<|aW (cE)
  by_cases c2:8<e.bB
  ·rw [if_pos (.inr c2)] at hf
   rw [hf,if_neg ah]
   refine zO Tryz.func74 77<|zq<|zS<|zq<|zB 0<|zP 1 [{}] [.aa [10,9,3,2,1,0] [1]] []<|bo 10 (e.kind == (1:Int)) bR<|zq<|bo 33 (e.kind == (2:Int)) bR<|zP 1 [{}] [.aa [45,33,10,9,3,2,1,0] [1]] []<|dQ 45 (e.kind == (3:Int)) fX<|zS<|zP 1 [yH ([(7,{b:=false})]++yg [4,5,6])] [.aa [54,45,33,10,9,3,2,1,0] [1]] (yM 4 (yF (e.bB<1)))<|jO 54 (e.bB>8)<|zq<|dW<|bl<|aW (cE)
  rw [if_neg ah] at hf
  have hv:iQ e= [[aE (u64 e.bB)]]:=by unfold iQ fU;rw [if_neg ah,if_neg k1,if_neg k2,if_pos k3];rfl
  rw [hf,if_pos rfl,hv]
  refine zO Tryz.func74 77<|zq<|zS<|zq<|zB 0<|zP 1 [{}] [.aa [10,9,3,2,1,0] [1]] []<|bo 10 (e.kind == (1:Int)) bR<|zq<|bo 33 (e.kind == (2:Int)) bR<|zP 1 [{}] [.aa [45,33,10,9,3,2,1,0] [1]] []<|dQ 45 (e.kind == (3:Int)) fX<|zS<|zP 1 [yH ([(7,{b:=false})]++yg [4,5,6])] [.aa [54,45,33,10,9,3,2,1,0] [1]] (yM 4 (yF (e.bB<1)))<|dK 54 (e.bB>8)<|a8<|zP 1 [yH [(2,yV (aw (u64 e.bB))),(3,{av:=some (AV.own 3 (af aU [aE (u64 e.bB)])),b:=false})]] [.aa [3,2,54,45,33,10,9,1,0] [59,1]] [yI (a6 e.bB),yI (gJ (u64 e.bB))]<|zR<|bl<|aW (cE)
 by_cases k4:e.kind=4
 ·have hf:eF e=fk e.dep:=by unfold eF;rw [if_neg k1,if_neg k2,if_neg k3,if_pos k4]
  have hv:iQ e=L_ e.dep:=if_pos k4
  rw [hf,hv]
  have H3:=vr e.dep hd
  generalize (if fk e.dep=0 then L_ e.dep else [])=V at *
  generalize fk e.dep=E at *
  refine zO Tryz.func74 77<|zq<|zS<|zq<|zB 0<|zP 1 [{}] [.aa [10,9,3,2,1,0] [1]] []<|bo 10 (e.kind == (1:Int)) bR<|zq<|bo 33 (e.kind == (2:Int)) bR<|zP 1 [{}] [.aa [45,33,10,9,3,2,1,0] [1]] []<|bo 45 (e.kind == (3:Int)) bR<|zq<|dQ 60 (e.kind == (4:Int)) fX<|zP 1 [yH [(2,{av:=some (AV.br [AV.own 1 (af cV V),ai E]),b:=false})]] [.aa [3,2,60,45,33,10,9,1,0] [1064,1]] [yI H3]<|zR<|bl<|aW (cE)
 have hf:eF e=if e.target=0 then 9 else 0:=by unfold eF;rw [if_neg k1,if_neg k2,if_neg k3,if_neg k4]
 by_cases c1:e.target=0
 ·rw [if_pos c1] at hf
  rw [hf,if_neg ah]
  refine zO Tryz.func74 77<|zq<|zS<|zq<|zB 0<|zP 1 [{}] [.aa [10,9,3,2,1,0] [1]] []<|bo 10 (e.kind == (1:Int)) bR<|zq<|bo 33 (e.kind == (2:Int)) bR<|zP 1 [{}] [.aa [45,33,10,9,3,2,1,0] [1]] []<|bo 45 (e.kind == (3:Int)) bR<|zq<|bo 60 (e.kind == (4:Int)) bR<|zK<|aM<|ak<|zS<|zP 1 [yH [(2,yV (ao (e.target == 0)))]] [.aa [69,60,45,33,10,9,3,2,1,0] [1]] [yI (fV e.target 0)]<|dQ 69 (e.target == 0) fX<|zq<|dW (cE)
 rw [if_neg c1] at hf
 have hv:iQ e= [[aE e.cm],[aE e.target]]:=by unfold iQ fU;rw [if_neg k4,if_neg k1,if_neg k2,if_neg k3,if_neg k4];rfl
 rw [hf,if_pos rfl,hv]
 refine zO Tryz.func74 77<|zq<|zS<|zq<|zB 0<|zP 1 [{}] [.aa [10,9,3,2,1,0] [1]] []<|bo 10 (e.kind == (1:Int)) bR<|zq<|bo 33 (e.kind == (2:Int)) bR<|zP 1 [{}] [.aa [45,33,10,9,3,2,1,0] [1]] []<|bo 45 (e.kind == (3:Int)) bR<|zq<|bo 60 (e.kind == (4:Int)) bR<|zK<|aM<|ak<|zS<|zP 1 [yH [(2,yV (ao (e.target == 0)))]] [.aa [69,60,45,33,10,9,3,2,1,0] [1]] [yI (fV e.target 0)]<|bo 69 (e.target == 0) bR<|a8<|zP 1 [{hs:=[(2,{av:=some (AV.own 3 (af aU [aE e.cm])),b:=false}),(5,{av:=some (AV.own 3 (af aU [aE e.target])),b:=false})],T:=5}] [.aa [3,2,69,60,45,33,10,9,1,0] [76,1]] [yI (gJ e.cm),yI (gJ e.target)]<|zR (cE)
theorem I7 (e:eK) (hB:ob e):bK Tryz.prog 39 [.agg (bk e)] (.br [.own 1 (ag (j0 e)),ai (eY e)]):=by
 by_cases c:eY e=0
 case neg =>
  have hb:j0 e= []:=if_neg c
  rw [hb]
  unfold eY
  by_cases k1:e.kind<1
  ·rw [if_pos (.inl k1)]
   refine zO Tryz.func39 60<|zq<|zS<|zP 1 [{}] [.aa [15,3,2,1,0] [1]] (yM 4 (yT (e.kind<1)))<|zT 15<|zq<|dW (cE)
  by_cases k5:5<e.kind
  ·rw [if_pos (.inr k5)]
   refine zO Tryz.func39 60<|zq<|zS<|zP 1 [yH ([(7,{b:=false})]++yg [4,5,6])] [.aa [15,3,2,1,0] [1]] (yM 4 (yF (e.kind<1)))<|jO 15 (e.kind>5)<|zq<|dW (cE)
  rw [if_neg ah]
  by_cases c1:¬eN e
  ·rw [if_pos c1]
   refine zO Tryz.func39 60<|zq<|zS<|zP 1 [yH ([(7,{b:=false})]++yg [4,5,6])] [.aa [15,3,2,1,0] [1]] (yM 4 (yF (e.kind<1)))<|dK 15 (e.kind>5)<|a8<|zS<|zP 1 [yH [(1,yV (ao (decide ¬eN e)))]] [.aa [17,15,3,2,1,0] [1]] [yI (jv e ah ah)]<|dQ 17 (decide ¬eN e) fX<|zq<|dW (cE)
  have FZ:decide (¬eN e)=false:=decide_eq_false c1
  rw [if_neg c1]
  by_cases q1:e.aC<1
  ·rw [if_pos (.inl q1)]
   refine zO Tryz.func39 60<|zq<|zS<|zP 1 [yH ([(7,{b:=false})]++yg [4,5,6])] [.aa [15,3,2,1,0] [1]] (yM 4 (yF (e.kind<1)))<|dK 15 (e.kind>5)<|a8<|zS<|zP 1 [yH [(1,yV (ao (decide ¬eN e)))]] [.aa [17,15,3,2,1,0] [1]] [yI (jv e ah ah)]<|bo 17 (decide ¬eN e) (by assumption)<|a8<|zS<|zP 1 [{}] [.aa [25,17,15,3,2,1,0] [1]] (yM 4 (yT (e.aC<1)))<|zT 25<|zq<|dW (cE)
  by_cases q2:2147483647<e.aC
  ·rw [if_pos (.inr q2)]
   refine zO Tryz.func39 60<|zq<|zS<|zP 1 [yH ([(7,{b:=false})]++yg [4,5,6])] [.aa [15,3,2,1,0] [1]] (yM 4 (yF (e.kind<1)))<|dK 15 (e.kind>5)<|a8<|zS<|zP 1 [yH [(1,yV (ao (decide ¬eN e)))]] [.aa [17,15,3,2,1,0] [1]] [yI (jv e ah ah)]<|bo 17 (decide ¬eN e) (by assumption)<|a8<|zS<|zP 1 [yH ([(7,{b:=false})]++yg [4,5,6])] [.aa [25,17,15,3,2,1,0] [1]] (yM 4 (yF (e.aC<1)))<|jO 25 (e.aC>2147483647)<|zq<|dW (cE)
  rw [if_neg ah]
  have LJ:eF e≠0:=by
   unfold eY at c
   rwa [if_neg ah,if_neg c1,if_neg ah] at c
  have hf:=uF e ah ah hB
  rw [if_neg LJ] at hf
  refine zO Tryz.func39 60<|zq<|zS<|zP 1 [yH ([(7,{b:=false})]++yg [4,5,6])] [.aa [15,3,2,1,0] [1]] (yM 4 (yF (e.kind<1)))<|dK 15 (e.kind>5)<|a8<|zS<|zP 1 [yH [(1,yV (ao (decide ¬eN e)))]] [.aa [17,15,3,2,1,0] [1]] [yI (jv e ah ah)]<|bo 17 (decide ¬eN e) (by assumption)<|a8<|zS<|zP 1 [yH ([(7,{b:=false})]++yg [4,5,6])] [.aa [25,17,15,3,2,1,0] [1]] (yM 4 (yF (e.aC<1)))<|dK 25 (e.aC>2147483647)<|a8<|zP 1 [yH [(1,{av:=some (AV.br [AV.own 1 (af cV []),ai (eF e)]),b:=false})]] [.aa [5,4,25,17,15,3,2,1,0] [1028,1]] [yI hf]<|zS<|zQ 1 [yH [(1,yV (ao true))]] [yB (ao (eF e != (0:Int))=ao true) (by simp [LJ])]<|zT 32<|zP 1 [{}] [.aa [3,2,32,5,4,25,17,15,1,0] [1028,1]] []<|dW (cE)
 have hb:j0 e=gF (fH e):=if_pos c
 rw [hb,c]
 obtain ⟨v1,v2,v3,v4,v5,v6,v7⟩:=x7 c
 unfold eY at c
 by_cases k1:e.kind<1∨5<e.kind
 ·rw [if_pos k1] at c;omega
 rw [if_neg k1] at c
 by_cases c1:¬eN e
 ·rw [if_pos c1] at c;omega
 have FZ:decide (¬eN e)=false:=decide_eq_false c1
 rw [if_neg c1] at c
 by_cases q1:e.aC<1∨2147483647<e.aC
 ·rw [if_pos q1] at c;omega
 rw [if_neg q1] at c
 have hf:=uF e ah ah hB
 rw [if_pos c,c] at hf
 have ha:=rn _ v1 (by rw [List.length_append];exact v2) (by rw [v3];exact v4)
 rw [v3] at ha
 have Tm:=CD (fH e) ah (fun x hx=>(v6 x hx).1) (fun x hx=>(v6 x hx).2)
 have hd:Fz (fH e)=gF (fH e):=if_pos v4
 rw [hd,v4] at Tm
 have E1:(af cV (iQ e)).length≤6:=by rw [aG (e:=1) (fun _=>rfl)];omega
 clear v1 v2 v3 v4 v5 v6 hd hb
 generalize fH e=A at *
 generalize iQ e=V at *
 refine zO Tryz.func39 60<|zq<|zS<|zP 1 [yH ([(7,{b:=false})]++yg [4,5,6])] [.aa [15,3,2,1,0] [1]] (yM 4 (yF (e.kind<1)))<|dK 15 (e.kind>5)<|a8<|zS<|zP 1 [yH [(1,yV (ao (decide ¬eN e)))]] [.aa [17,15,3,2,1,0] [1]] [yI (jv e ah ah)]<|bo 17 (decide ¬eN e) (by assumption)<|a8<|zS<|zP 1 [yH ([(7,{b:=false})]++yg [4,5,6])] [.aa [25,17,15,3,2,1,0] [1]] (yM 4 (yF (e.aC<1)))<|dK 25 (e.aC>2147483647)<|a8<|zP 1 [yH [(1,{av:=some (AV.br [AV.own 1 (af cV V),ai 0]),b:=false})]] [.aa [5,4,25,17,15,3,2,1,0] [1028,1]] [yI hf]<|zS<|zq<|zF 32<|a8<|zP 2 [{hs:=[(2,yV (aw (u64 e.aC))),(3,{av:=some (AV.own 3 (af aU [aE (u64 e.aC)])),b:=false}),(6,{av:=some (AV.own 3 (af aU [aE e.prev])),b:=false}),(9,yV (aw (u64 e.kind))),(10,{av:=some (AV.own 3 (af aU [aE (u64 e.kind)])),b:=false})],T:=10},yH [(2,{b:=false}),(3,{av:=some (AV.br [AV.sl 3 (af aU A),ai 0]),b:=false})]] [.aa [5,7,32,4,25,17,15,3,2,1,0] [1028,1]] [yI (a6 e.aC),yI (gJ (u64 e.aC)),yI (gJ e.prev),yI (a6 e.kind),yI (gJ (u64 e.kind)),yB (dh (af cV V)) (hY (fun x=>ij rfl) _),yO ((3+(af cV V).length)*24≤140737488355328),yI ha]<|zS<|zq<|zF 54<|a8<|zP 1 [yH [(1,yV (AV.br [AV.own 1 (ag (gF A)),ai 0]))]] [.aa [3,2,54,5,7,32,4,25,17,15,1,0] [1057,1028,1]] [yI Tm,yI (aV (gF A))]<|zR (cE)
theorem Ap (e:eK) (c:eY e=0):(j0 e).length≤500000:=by
 obtain ⟨v1,v2,v3,v4,v5,v6,v7⟩:=x7 c
 unfold j0
 rw [if_pos c]
 exact Nat.le_trans (pU (fun x hx=>(v6 x hx).2) v5) (by decide)
theorem ta (e:eK) (hB:ob e):bK Tryz.prog 50 [.agg (bk e)] (.br [aw (if eY e=0 then dJ e else 0),ai (eY e)]):=by
 have hb:=I7 e hB
 by_cases c:eY e=0
 case neg =>
  rw [if_neg c]
  refine zO Tryz.func50 16<|zP 2 [{},yH [(1,yV (AV.br [AV.own 1 (ag (j0 e)),ai (eY e)]))]] [.aa [5,4,3,2,1,0] [1008,1]] [yI hb,yI (aV (j0 e))]<|zS<|zQ 1 [yH [(1,yV (ao true))]] [yB (ao (eY e != (0:Int))=ao true) (by simp [c])]<|zT 12<|zP 1 [{}] [.aa [3,2,12,5,4,1,0] [1008,1]] []<|dW (cE)
 rw [if_pos c]
 have hl:=Ap e c
 rw [c] at hb ⊢
 refine zO Tryz.func50 16<|zP 2 [{},yH [(1,yV (AV.br [AV.own 1 (ag (j0 e)),ai 0]))]] [.aa [5,4,3,2,1,0] [1008,1]] [yI hb,yI (aV (j0 e))]<|zS<|zq<|zF 12<|a8<|zP 1 [yH [(1,yV (aw (hash (16:Int) (j0 e))))]] [.aa [3,2,12,5,4,1,0] [1008,1]] [yI (np ((16:Int)) (j0 e))]<|zR (cE)
end Go.Proofs.YtjgbhhnghedgdaaGreatDoor
