import Derived.Test.YtjgbhhnghedgdaaGreatDoorZmGrR1
import Derived.Test.YtjgbhhnghedgdaaGreatDoorZmGrR5
set_option linter.all false
namespace Go.Proofs.YtjgbhhnghedgdaaGreatDoor
open Go.RowKit
set_option maxRecDepth 100000
set_option maxHeartbeats 4000000
def isVal:AV->Bool
 | .val _=>true
 | _=>false
theorem Em {l:List AV} (h:l.all isVal=true):lr l:=fun x hx=>by
 have:=List.all_eq_true.1 h x hx
 cases x<;>first|exact ⟨_,rfl⟩|cases this
def LW (e:dP):List fJ:=if e.kind=1 then (if eh e.name≠0 then [] else [cz e.name,dY (dh e.kh e.kr)]) else if e.kind=2 then [cz e.name] else if fb e=0 then gl e else []
theorem Oh {e:dP} (h:fb e=0):LW e=gl e:=by
 unfold LW
 rw [show gl e=if e.kind=1 then [cz e.name,dY (dh e.kh e.kr)] else if e.kind=2 then [cz e.name] else gl e by unfold gl;by_cases k1:e.kind=1;simp [k1];by_cases k2:e.kind=2;simp [k2];simp [k1,k2]]
 by_cases k1:e.kind=1
 ·have:eh e.name=0:=by
   unfold fb at h
   rw [if_pos k1] at h
   apply Classical.byContradiction;intro q;rw [if_pos q] at h;exact q h
  rw [if_pos k1,if_pos k1,if_neg ah]
 rw [if_neg k1,if_neg k1]
 by_cases k2:e.kind=2
 ·rw [if_pos k2,if_pos k2]
 rw [if_neg k2,if_neg k2,if_pos h]
theorem sI (e:dP) (h1:1≤e.kind) (h5:e.kind≤5) (hB:mY e):bC Tryz.prog 80 [.agg (aI e)] (.bk [.own 3 (ae aY (LW e)),ai (fb e)]):=by
 obtain ⟨hn,hd⟩:=hB
 have hz:=qV e.name hn
 by_cases k1:e.kind=1
 ·have hf:fb e=if eh e.name≠0 then eh e.name else e_ e.kh:=if_pos k1
  have hc:LW e=if eh e.name≠0 then [] else [cz e.name,dY (dh e.kh e.kr)]:=if_pos k1
  by_cases c1:eh e.name=0
  case neg =>
   rw [if_pos c1] at hf hc
   rw [hc,hf]
   refine zO Tryz.func80 67<|zq<|zS<|zq<|zB 0<|zP 1 [{}] [.aa [9,8,3,2,1,0] [1]] []<|dm 9 (e.kind == (1:Int)) eg<|zS<|zP 2 [yH [(2,yV (ai (eh e.name)))],yH [(1,yV (ao true))]] [.aa [15,4,9,8,3,2,1,0] [1]] [yI (fF e.name hn),yB (ao (eh e.name != (0:Int))=ao true) (by simp [c1])]<|zT 15<|zq<|dd<|bc<|aN (bL)
  rw [if_neg ah] at hf hc
  have iH:=nH e.kh e.kr
  rw [hc,hf]
  refine zO Tryz.func80 67<|zq<|zS<|zq<|zB 0<|zP 1 [{}] [.aa [9,8,3,2,1,0] [1]] []<|dm 9 (e.kind == (1:Int)) eg<|zS<|zP 2 [yH [(2,yV (ai (eh e.name)))],yH [(1,yV (ao false))]] [.aa [15,4,9,8,3,2,1,0] [1]] [yI (fF e.name hn),yB (ao (eh e.name != (0:Int))=ao false) (by simp [c1])]<|zF 15<|aW<|zP 2 [yH [(2,yV (AV.bk [AV.own 1 (ag (dh e.kh e.kr)),ai (e_ e.kh)]))],yH [(2,yV (AV.agg (aY (cz e.name)))),(4,yV (AV.agg (aY (dY (dh e.kh e.kr)))))]] [.aa [3,2,6,5,15,4,9,8,1,0] [28,1020,1]] [yI (gH e.kh e.kr),yI (aP (dh e.kh e.kr)),yI (q7 e.name),yI (wX (dh e.kh e.kr) ah)]<|zR<|bc<|aN (bL)
 by_cases k2:e.kind=2
 ·have hf:fb e=eh e.name:=by unfold fb;rw [if_neg k1,if_pos k2]
  have hc:LW e= [cz e.name]:=by unfold LW;rw [if_neg k1,if_pos k2]
  rw [hf,hc]
  refine zO Tryz.func80 67<|zq<|zS<|zq<|zB 0<|zP 1 [{}] [.aa [9,8,3,2,1,0] [1]] []<|bj 9 (e.kind == (1:Int)) bD<|zq<|dm 30 (e.kind == (2:Int)) eg<|zS<|QU 7 [3] [(2,yV (AV.agg (aY (cz e.name)))),(3,yV (AV.own 3 (ae aY [cz e.name]))),(6,yV (ai (eh e.name)))] [yI (q7 e.name),yB (lr ((aY (cz e.name))++ [])) (Em rfl),yI (fF e.name hn)]<|ak<|bf.r9 [.aa [3,2,30,9,8,1,0] [35,1]] bt<|zR<|bc<|aN (bL)
 have hc:LW e=if fb e=0 then gl e else []:=by unfold LW;rw [if_neg k1,if_neg k2]
 rw [hc]
 by_cases k3:e.kind=3
 ·have hf:fb e=if e.br<1∨8<e.br then 9 else 0:=by unfold fb;rw [if_neg k1,if_neg k2,if_pos k3]
  by_cases c1:1≤e.br∧e.br≤8
  ·rw [if_neg ah] at hf
   have hv:gl e= [aJ (u64 e.br)]:=by unfold gl;rw [if_neg k1,if_neg k2,if_pos k3]
   rw [hf,if_pos rfl,hv]
   refine zO Tryz.func80 67<|zq<|zS<|zq<|zB 0<|zP 1 [{}] [.aa [9,8,3,2,1,0] [1]] []<|bj 9 (e.kind == (1:Int)) bD<|zq<|bj 30 (e.kind == (2:Int)) bD<|zP 1 [{}] [.aa [39,30,9,8,3,2,1,0] [1]] []<|dm 39 (e.kind == (3:Int)) eg<|zS<|zP 1 [yH [(2,yV (ao (decide ((1:Int)≤e.br∧e.br≤8))))]] [.aa [44,39,30,9,8,3,2,1,0] [1]] [yI (bq e.br ((1:Int)) ((8:Int)))]<|bj 44 (!decide ((1:Int)≤e.br∧e.br≤8)) (by simp_all)<|aW<|zP 1 [yH [(2,yV (aw (u64 e.br))),(3,yV (AV.agg (aY (aJ (u64 e.br)))))]] [.aa [3,2,44,39,30,9,8,1,0] [49,1]] [yI (ba e.br),yI (gY (u64 e.br))]<|zR<|bc<|aN (bL)
  ·rw [if_pos ah] at hf
   rw [hf,if_neg ah]
   refine zO Tryz.func80 67<|zq<|zS<|zq<|zB 0<|zP 1 [{}] [.aa [9,8,3,2,1,0] [1]] []<|bj 9 (e.kind == (1:Int)) bD<|zq<|bj 30 (e.kind == (2:Int)) bD<|zP 1 [{}] [.aa [39,30,9,8,3,2,1,0] [1]] []<|dm 39 (e.kind == (3:Int)) eg<|zS<|zP 1 [yH [(2,yV (ao (decide ((1:Int)≤e.br∧e.br≤8))))]] [.aa [44,39,30,9,8,3,2,1,0] [1]] [yI (bq e.br ((1:Int)) ((8:Int)))]<|dm 44 (!decide ((1:Int)≤e.br∧e.br≤8)) (by simp;omega)<|zq<|dd<|bc<|aN (bL)
 by_cases k4:e.kind=4
 ·have hf:fb e=fH e.dep:=by unfold fb;rw [if_neg k1,if_neg k2,if_neg k3,if_pos k4]
  have hv:gl e=vw e.dep:=by unfold gl;rw [if_neg k1,if_neg k2,if_neg k3,if_pos k4]
  rw [hf,hv]
  have I9:=CI e.dep hd
  generalize (if fH e.dep=0 then vw e.dep else [])=V at *
  generalize fH e.dep=E at *
  refine zO Tryz.func80 67<|zq<|zS<|zq<|zB 0<|zP 1 [{}] [.aa [9,8,3,2,1,0] [1]] []<|bj 9 (e.kind == (1:Int)) bD<|zq<|bj 30 (e.kind == (2:Int)) bD<|zP 1 [{}] [.aa [39,30,9,8,3,2,1,0] [1]] []<|bj 39 (e.kind == (3:Int)) bD<|zq<|dm 50 (e.kind == (4:Int)) eg<|zP 1 [yH [(2,{av:=some (AV.bk [AV.own 3 (ae aY V),ai E]),b:=false})]] [.aa [3,2,50,39,30,9,8,1,0] [1054,1]] [yI I9]<|zR<|bc<|aN (bL)
 have hf:fb e=if e.target=0 then 9 else 0:=by unfold fb;rw [if_neg k1,if_neg k2,if_neg k3,if_neg k4]
 by_cases c1:e.target=0
 ·rw [if_pos c1] at hf
  rw [hf,if_neg ah]
  refine zO Tryz.func80 67<|zq<|zS<|zq<|zB 0<|zP 1 [{}] [.aa [9,8,3,2,1,0] [1]] []<|bj 9 (e.kind == (1:Int)) bD<|zq<|bj 30 (e.kind == (2:Int)) bD<|zP 1 [{}] [.aa [39,30,9,8,3,2,1,0] [1]] []<|bj 39 (e.kind == (3:Int)) bD<|zq<|bj 50 (e.kind == (4:Int)) bD<|zK<|aM<|ak<|zS<|zP 1 [yH [(2,yV (ao (e.target == 0)))]] [.aa [59,50,39,30,9,8,3,2,1,0] [1]] [yI (fw e.target 0)]<|dm 59 (e.target == 0) eg<|zq<|dd (bL)
 rw [if_neg c1] at hf
 have hv:gl e= [aJ e.bY,aJ e.target]:=by unfold gl;rw [if_neg k1,if_neg k2,if_neg k3,if_neg k4]
 rw [hf,if_pos rfl,hv]
 refine zO Tryz.func80 67<|zq<|zS<|zq<|zB 0<|zP 1 [{}] [.aa [9,8,3,2,1,0] [1]] []<|bj 9 (e.kind == (1:Int)) bD<|zq<|bj 30 (e.kind == (2:Int)) bD<|zP 1 [{}] [.aa [39,30,9,8,3,2,1,0] [1]] []<|bj 39 (e.kind == (3:Int)) bD<|zq<|bj 50 (e.kind == (4:Int)) bD<|zK<|aM<|ak<|zS<|zP 1 [yH [(2,yV (ao (e.target == 0)))]] [.aa [59,50,39,30,9,8,3,2,1,0] [1]] [yI (fw e.target 0)]<|bj 59 (e.target == 0) bD<|aW<|zP 1 [{hs:=[(2,yV (AV.agg (aY (aJ e.bY)))),(5,yV (AV.agg (aY (aJ e.target))))],T:=5}] [.aa [3,2,59,50,39,30,9,8,1,0] [66,1]] [yI (gY e.bY),yI (gY e.target)]<|zR (bL)
theorem KE (k:Int) (h1:1≤k) (h5:k≤5):bC Tryz.prog 82 [ai k] (ai (fC k)):=by
 by_cases k1:k=1
 ·have e:fC k=2:=if_pos (.inl k1)
  refine zO Tryz.func82 9<|zq<|zS<|zq<|zB 0<|zS<|zq<|dm 4 (k == (1:Int)) eg<|aW<|dm 4 (k == (1:Int)) eg<|zq<|zR<|bc<|aN (zV [yJ 2 (↑(fC k):Int) (by rw [e];rfl)])
 by_cases k5:k=5
 ·have e:fC k=2:=if_pos (.inr k5)
  refine zO Tryz.func82 9<|zq<|zS<|zq<|zB 0<|zS<|zq<|bj 4 (k == (1:Int)) bD<|zX {} []<|ak<|dm 4 (k == (5:Int)) eg<|zP 1 [{}] [.aa [2,4,3,0] []] []<|zR<|bc<|aN (zV [yJ 2 (↑(fC k):Int) (by rw [e];rfl)])
 by_cases k4:k=4
 ·have e:fC k=6:=by unfold fC;rw [if_neg ah,if_pos k4]
  refine zO Tryz.func82 9<|zq<|zS<|zq<|zB 0<|zS<|zq<|bj 4 (k == (1:Int)) bD<|zX {} []<|ak<|bj 4 (k == (5:Int)) bD<|zP 1 [{}] [.aa [7,4,3,2,0] []] []<|dm 7 (k == (4:Int)) eg<|zq<|zR<|bc<|aN (zV [yJ 6 (↑(fC k):Int) (by rw [e];rfl)])
 ·have e:fC k=1:=by unfold fC;rw [if_neg ah,if_neg k4]
  refine zO Tryz.func82 9<|zq<|zS<|zq<|zB 0<|zS<|zq<|bj 4 (k == (1:Int)) bD<|zX {} []<|ak<|bj 4 (k == (5:Int)) bD<|zP 1 [{}] [.aa [7,4,3,2,0] []] []<|bj 7 (k == (4:Int)) bD<|zK<|aM<|ak<|zq<|zR (zV [yJ 1 (↑(fC k):Int) (by rw [e];rfl)])
theorem oR (b:List UInt8) (hb:b.length≤1000000):bC Tryz.prog 56 [.sl 1 (ag b)] (aw (hash 16 b)):=by
 refine zO Tryz.func56 5<|zP 2 [{},yH [(1,yV (aw (hash (16:Int) b)))]] [.aa [2,0] []] [yI (iA ((16:Int)) b ah)]<|zR (bL)
def Kf (x:fJ):Prop:=x.kind=3∨x.kind=4∨x.cI= []
theorem LF (e:dP):∀x∈fZ e,Kf x:=by
 have hu (n:UInt64):Kf (aJ n):=.inr (.inr rfl)
 have ha (n:UInt64):Kf (bF n):=.inr (.inr rfl)
 have ht (b:List UInt8):Kf (cz b):=.inr (.inl rfl)
 have hb (b:List UInt8):Kf (dY b):=.inl rfl
 intro x hx
 unfold fZ at hx
 rcases List.mem_append.1 hx with hx|hx
 ·simp only [List.mem_cons,List.not_mem_nil,or_false] at hx
  rcases hx with rfl|rfl|rfl|rfl
  ·exact ha _
  ·exact hu _
  ·exact hu _
  ·exact hu _
 unfold gl vw at hx
 split at hx
 ·simp only [List.mem_cons,List.not_mem_nil,or_false] at hx
  rcases hx with rfl|rfl
  ·exact ht _
  ·exact hb _
 split at hx
 ·obtain rfl:=List.mem_singleton.1 hx;exact ht _
 split at hx
 ·obtain rfl:=List.mem_singleton.1 hx;exact hu _
 split at hx
 ·simp only [List.mem_append,List.mem_cons,List.not_mem_nil,or_false,List.mem_map] at hx
  rcases hx with ((((rfl|rfl|rfl))|(rfl|⟨_,_,rfl⟩))|(rfl|⟨_,_,rfl⟩))|rfl
  ·exact hu _
  ·exact hu _
  ·exact hb _
  ·exact ha _
  ·exact ht _
  ·exact ha _
  ·exact hu _
  ·exact hu _
 ·simp only [List.mem_cons,List.not_mem_nil,or_false] at hx
  rcases hx with rfl|rfl
  ·exact hu _
  ·exact hu _
theorem Iv {l:List fJ} {i:Nat} (h:i<l.length):List.take 3 (List.drop (i*3) (ae aY l))=aY (l.getD i default):=jm (e:=3) (fun _=>rfl) h
theorem GL (l:List fJ) {i:Nat} (h:i<l.length):gT (l.take i)++jl (l.getD i default)=gT (l.take (i+1)):=by
 unfold gT
 rw [List.take_add_one,List.flatMap_append,List.getD_eq_getElem?_getD,List.getElem?_eq_getElem h]
 simp
theorem jK (e:dP) (hB:mY e):bC Tryz.prog 40 [.agg (aI e)] (.bk [.own 1 (ag (bN e)),ai (dH e)]):=by
 by_cases c:dH e=0
 case neg =>
  have hb:bN e= []:=if_neg c
  rw [hb]
  unfold dH
  by_cases k1:1≤e.kind∧e.kind≤5
  case neg =>
   rw [if_pos ah]
   refine zO Tryz.func40 64<|zq<|zS<|zB 0<|zP 1 [yH [(2,yV (ao (decide ((1:Int)≤e.kind∧e.kind≤5))))]] [.aa [9,3,2,1,0] [1]] [yI (bq e.kind ((1:Int)) ((5:Int)))]<|dm 9 (!decide ((1:Int)≤e.kind∧e.kind≤5)) (by simp;omega)<|zq<|zR<|bc<|aN (bL)
  rw [if_neg ah]
  by_cases c1:fk e
  case neg =>
   rw [if_pos c1]
   refine zO Tryz.func40 64<|zq<|zS<|zB 0<|zP 1 [yH [(2,yV (ao (decide ((1:Int)≤e.kind∧e.kind≤5))))]] [.aa [9,3,2,1,0] [1]] [yI (bq e.kind ((1:Int)) ((5:Int)))]<|bj 9 (!decide ((1:Int)≤e.kind∧e.kind≤5)) (by simp_all)<|zP 1 [yH [(1,yV (ao (decide (fk e))))]] [.aa [14,9,3,2,1,0] [1]] [yI (jy e)]<|dm 14 (!decide (fk e)) (by simp_all)<|zq<|zR<|bc<|aN (bL)
  rw [if_neg (fun q=>q c1)]
  by_cases q1:1≤e.aA∧e.aA≤2147483647
  case neg =>
   rw [if_pos ah]
   refine zO Tryz.func40 64<|zq<|zS<|zB 0<|zP 1 [yH [(2,yV (ao (decide ((1:Int)≤e.kind∧e.kind≤5))))]] [.aa [9,3,2,1,0] [1]] [yI (bq e.kind ((1:Int)) ((5:Int)))]<|bj 9 (!decide ((1:Int)≤e.kind∧e.kind≤5)) (by simp_all)<|zP 1 [yH [(1,yV (ao (decide (fk e))))]] [.aa [14,9,3,2,1,0] [1]] [yI (jy e)]<|bj 14 (!decide (fk e)) (by simp_all)<|zP 1 [yH [(2,yV (ao (decide ((1:Int)≤e.aA∧e.aA≤2147483647))))]] [.aa [18,14,9,3,2,1,0] [1]] [yI (bq e.aA ((1:Int)) ((2147483647:Int)))]<|dm 18 (!decide ((1:Int)≤e.aA∧e.aA≤2147483647)) (by simp;omega)<|zq<|zR<|bc<|aN (bL)
  rw [if_neg ah]
  have Mx:fb e≠0:=by
   unfold dH at c
   rwa [if_neg ah,if_neg (fun q=>q c1),if_neg ah] at c
  refine zO Tryz.func40 64<|zq<|zS<|zB 0<|zP 1 [yH [(2,yV (ao (decide ((1:Int)≤e.kind∧e.kind≤5))))]] [.aa [9,3,2,1,0] [1]] [yI (bq e.kind ((1:Int)) ((5:Int)))]<|bj 9 (!decide ((1:Int)≤e.kind∧e.kind≤5)) (by simp_all)<|zP 1 [yH [(1,yV (ao (decide (fk e))))]] [.aa [14,9,3,2,1,0] [1]] [yI (jy e)]<|bj 14 (!decide (fk e)) (by simp_all)<|zP 1 [yH [(2,yV (ao (decide ((1:Int)≤e.aA∧e.aA≤2147483647))))]] [.aa [18,14,9,3,2,1,0] [1]] [yI (bq e.aA ((1:Int)) ((2147483647:Int)))]<|bj 18 (!decide ((1:Int)≤e.aA∧e.aA≤2147483647)) (by simp_all)<|zK<|aM<|ak<|zP 1 [yH [(1,{av:=some (AV.bk [AV.own 3 (ae aY (LW e)),ai (fb e)]),b:=false})]] [.aa [5,4,18,14,9,3,2,1,0] [1025,1]] [yI (sI e ah ah hB)]<|zS<|zQ 1 [yH [(1,yV (ao true))]] [yB (ao (fb e != (0:Int))=ao true) (by simp [Mx])]<|zT 29<|zP 1 [{}] [.aa [3,2,29,5,4,18,14,9,1,0] [1025,1]] []<|dd (bL)
 have hb:bN e=gT (fZ e):=if_pos c
 rw [hb,c]
 obtain ⟨v1,v2,v3,v4,v5,v6,v7⟩:=zz c
 unfold dH at c
 by_cases k1:1≤e.kind∧e.kind≤5
 case neg=>rw [if_pos ah] at c;omega
 rw [if_neg ah] at c
 by_cases c1:fk e
 case neg=>rw [if_pos c1] at c;omega
 rw [if_neg (fun q=>q c1)] at c
 by_cases q1:1≤e.aA∧e.aA≤2147483647
 case neg=>rw [if_pos ah] at c;omega
 rw [if_neg ah] at c
 have hf:=sI e k1.1 k1.2 hB
 rw [c,Oh c] at hf
 have ht:=En e.kind
 have hv:(ae aY (gl e)).length≤90:=by
  have:(fZ e).length=4+(gl e).length:=by unfold fZ;rw [List.length_append];rfl
  rw [aE (e:=3) (fun _=>rfl)];omega
 have w1:IntKind.i64.wrap (3+(fC e.kind:Int))=3+(fC e.kind:Int):=by rw [IntKind.wrap_i64];omega
 have s1:ae aY [bF (u64 (3+fC e.kind)),aJ (u64 e.aA),aJ e.prev,aJ (u64 e.kind)]++ae aY (gl e)=ae aY (fZ e):=fG _ _
 have Tv:∀i,i<(fZ e).length->eO ((fZ e).getD i default).kind∧((fZ e).getD i default).cI.length≤10000:=fun i hi=>by
  rw [List.getD_eq_getElem?_getD,List.getElem?_eq_getElem hi]
  exact v6 _ (List.getElem_mem hi)
 have Vv:∀i,i<(fZ e).length->((fZ e).getD i default).kind=3∨((fZ e).getD i default).kind=4∨((fZ e).getD i default).cI= []:=fun i hi=>by
  rw [List.getD_eq_getElem?_getD,List.getElem?_eq_getElem hi]
  exact LF e _ (List.getElem_mem hi)
 have hlen:∀i,(gT ((fZ e).take i)).length≤300270:=fun i=>qB (n:=30) (fun x hx=>(v6 x (List.mem_of_mem_take hx)).2) (by rw [List.length_take];omega)
 clear v1 v2 v3 v4 v6 v7 hb
 refine zO Tryz.func40 64<|zq<|zS<|zB 0<|zP 1 [yH [(2,yV (ao (decide ((1:Int)≤e.kind∧e.kind≤5))))]] [.aa [9,3,2,1,0] [1]] [yI (bq e.kind ((1:Int)) ((5:Int)))]<|bj 9 (!decide ((1:Int)≤e.kind∧e.kind≤5)) (by simp_all)<|zP 1 [yH [(1,yV (ao (decide (fk e))))]] [.aa [14,9,3,2,1,0] [1]] [yI (jy e)]<|bj 14 (!decide (fk e)) (by simp_all)<|zP 1 [yH [(2,yV (ao (decide ((1:Int)≤e.aA∧e.aA≤2147483647))))]] [.aa [18,14,9,3,2,1,0] [1]] [yI (bq e.aA ((1:Int)) ((2147483647:Int)))]<|bj 18 (!decide ((1:Int)≤e.aA∧e.aA≤2147483647)) (by simp_all)<|zK<|aM<|ak<|zP 1 [yH [(1,{av:=some (AV.bk [AV.own 3 (ae aY (gl e)),ai 0]),b:=false})]] [.aa [5,4,18,14,9,3,2,1,0] [1025,1]] [yI hf]<|zS<|zq<|zF 29<|aW<|zS<|QU 18 [16] [(2,yV (ai (↑(fC e.kind):Int))),(3,yV (ai ((3:Int)+(↑(fC e.kind):Int)))),(4,yV (AV.agg [ai ((bF (u64 ((3:Int)+(↑(fC e.kind):Int)))).kind),aw ((bF (u64 ((3:Int)+(↑(fC e.kind):Int)))).num),AV.val (Value.string (ByteArray.mk (bF (u64 ((3:Int)+(↑(fC e.kind):Int)))).cI.toArray))])),(7,yV (aw (u64 e.aA))),(8,yV (AV.agg (aY (aJ (u64 e.aA))))),(11,yV (AV.agg (aY (aJ e.prev)))),(14,yV (aw (u64 e.kind))),(15,yV (AV.agg (aY (aJ (u64 e.kind))))),(18,{av:=some (AV.arr (ae aY (fZ e))),b:=false}),(19,yV (AV.ref 49))] [yI (KE e.kind ah ah),yN ((3:Int)+(↑(fC e.kind):Int)),yI (um ((3:Int)+(↑(fC e.kind):Int))),yI (ba e.aA),yI (gY (u64 e.aA)),yI (gY e.prev),yI (ba e.kind),yI (gY (u64 e.kind)),yB (lr ([ai ((bF (u64 ((3:Int)+(↑(fC e.kind):Int)))).kind),aw ((bF (u64 ((3:Int)+(↑(fC e.kind):Int)))).num),AV.val (Value.string (ByteArray.mk (bF (u64 ((3:Int)+(↑(fC e.kind):Int)))).cI.toArray))]++((aY (aJ (u64 e.aA)))++((aY (aJ e.prev))++((aY (aJ (u64 e.kind)))++ []))))) (Em rfl),yR (ae aY (fZ e)),yB (cE (ae aY (gl e))) (dD wZ _),yO ((12+(ae aY (gl e)).length)*32≤422212465065984),yR (AV.ref 49)]<|ak<|bf.r9 [.aa [6,29,5,4,18,14,9,3,2,1,0] [49,1025,1]] bt<|zq<|zS<|bf.jJ 1 [{}] bt (s':=AS.mk [(8,ai 0),(7,AV.nil),(6,AV.ref 49),(29,ao ((0:Int) != (0:Int))),(5,ai 0),(4,AV.ref 1025),(18,ao (!decide ((1:Int)≤e.aA∧e.aA≤2147483647))),(14,ao (!decide (fk e))),(9,ao (!decide ((1:Int)≤e.kind∧e.kind≤5))),(3,ai 0),(2,AV.nil),(1,AV.addr 1 0),(0,AV.agg (aI e))] [(49,Row.mk 3 true false (ae aY (fZ e))),(1025,Row.mk 3 true false (ae aY (gl e))),(1,Row.mk 1 false true (List.map (aB 49) (cK 47 (Row.mk 1 false true (List.map (aB 1025) (List.map (aB 1) (aI e))))).cells))]) (C:=[]) bt trivial<|zB 1 ?_
 have Nz:(ae aY (fZ e)).length=(fZ e).length*3:=aE (e:=3) (fun _=>rfl) ..
 generalize fZ e=A at *
 refine zL (fun (i:Nat)=>(⟨[(6,AV.ref 49),(29,ao ((0:Int) != (0:Int))),(5,ai 0),(4,AV.ref 1025),(18,ao (!decide ((1:Int)≤e.aA∧e.aA≤2147483647))),(14,ao (!decide (fk e))),(9,ao (!decide ((1:Int)≤e.kind∧e.kind≤5))),(3,ai 0),(2,AV.nil),(1,AV.addr 1 0),(0,AV.agg (aI e)),(8,ai i),(7,AV.ref 7)],[(49,⟨3,true,false,ae aY A⟩),(1025,⟨3,true,false,ae aY (gl e)⟩),(7,⟨1,true,false,ag (gT (A.take i))⟩),(1,⟨1,false,true,aI e⟩)]⟩:AS)) (fun i=>(i≤A.length)) (fun i=>(A.length-i)) (0) ?_ (zW [.nil 7 7 1,.aa [6,29,5,4,18,14,9,3,2,1,0,8,7] [49,1025,7,1]]) ?_
 ·omega
 intro i hi
 refine zS<|zP 1 [yH [(2,{k:=A.length})]] [.aa [53,6,29,5,4,18,14,9,3,2,1,0,8,7] [49,1025,7,1]] [yI Nz] (zD 53 ((↑i:Int)<(↑A.length:Int)) (fun g=>?_) (fun g=>?_))
 ·have cX:i<A.length:=ah
  have gh:=Iv cX
  have hs:=Tv i cX
  have hx:=xZ _ hs.1 ah (Vv i cX)
  have oJ:=hlen i
  have lJ:=BX (A.getD i default)
  have es:=GL A cX
  refine aW<|zS<|zB 2<|zX (yH [(3,{k:=i}),(4,yV (AV.agg (aY (A.getD i default)))),(5,yV (cQ (jl (A.getD i default)))),(6,{av:=some (AV.arr (ag (gT (List.take i A)++(jl (A.getD i default)).toArray.toList))),b:=false})]) [yR (↑i:Int),yO (i*3<(ae aY A).length),yu aY A i 0 3,yR 3,yI hx,yB (ag (gT (List.take i A))++ag (jl (A.getD i default)).toArray.toList=ag (gT (List.take i A)++(jl (A.getD i default)).toArray.toList)) (da _ _),yB (cE (ag (jl (A.getD i default)).toArray.toList)) (fW _),yB (((ag (gT (List.take i A))).length+(ag (jl (A.getD i default)).toArray.toList).length)*1≤140737488355328) (by simp only [aD];omega)]<|aM<|ak<|zX (yH [(1,yV (ai ((↑i:Int)+1)))]) [yN ((↑i:Int)+1)] (aH (i+1) (by assumption) ah (eu [.vK 62 7,.aa [6,29,5,4,18,14,9,3,2,1,0,8,7] [49,1025,7,1]] [] [7] [yB (ag (gT (List.take i A)++(jl (A.getD i default)).toArray.toList)=ag (gT (List.take (i+1) A))) (by rw [←es])]))
 ·have ei:i=A.length:=ah
  subst ei
  refine zE 1<|aS<|aK<|bg<|ak<|zq<|zR (zV [yB (ag (gT (List.take A.length A))=ag (gT A)) (by rw [List.take_length]),yR (Value.int .i64 0)])
end Go.Proofs.YtjgbhhnghedgdaaGreatDoor
