import Derived.Test.YtjgbhhnghedgdaaGreatDoorZsGrA1
import Derived.Test.YtjgbhhnghedgdaaGreatDoorZsGrR5
set_option linter.all false
namespace Go.Proofs.YtjgbhhnghedgdaaGreatDoor
open Go.RowKit
set_option maxRecDepth 100000
set_option maxHeartbeats 4000000
def isVal:AV->Bool
 | .val _=>true
 | _=>false
theorem Db {l:List AV} (h:l.all isVal=true):lC l:=fun x hx=>by
 have:=List.all_eq_true.1 h x hx
 cases x<;>first|exact ⟨_,rfl⟩|cases this
def K6 (e:eK):List fo:=if e.kind=1 then (if dG e.name≠0 then [] else [b_ e.name,dC (cT e.kh e.kr)]) else if e.kind=2 then [b_ e.name] else if eF e=0 then fU e else []
theorem Ns {e:eK} (h:eF e=0):K6 e=fU e:=by
 unfold K6
 rw [show fU e=if e.kind=1 then [b_ e.name,dC (cT e.kh e.kr)] else if e.kind=2 then [b_ e.name] else fU e by unfold fU;by_cases k1:e.kind=1;simp [k1];by_cases k2:e.kind=2;simp [k2];simp [k1,k2]]
 by_cases k1:e.kind=1
 ·have:dG e.name=0:=by
   unfold eF at h
   rw [if_pos k1] at h
   apply Classical.byContradiction;intro q;rw [if_pos q] at h;exact q h
  rw [if_pos k1,if_pos k1,if_neg ah]
 rw [if_neg k1,if_neg k1]
 by_cases k2:e.kind=2
 ·rw [if_pos k2,if_pos k2]
 rw [if_neg k2,if_neg k2,if_pos h]
theorem rX (e:eK) (h1:1≤e.kind) (h5:e.kind≤5) (hB:ob e):bK Tryz.prog 80 [.agg (bk e)] (.br [.own 3 (af aU (K6 e)),ai (eF e)]):=by
 obtain ⟨hn,hd⟩:=hB
 have hz:=qn e.name hn
 by_cases k1:e.kind=1
 ·have hf:eF e=if dG e.name≠0 then dG e.name else eE e.kh:=if_pos k1
  have hc:K6 e=if dG e.name≠0 then [] else [b_ e.name,dC (cT e.kh e.kr)]:=if_pos k1
  by_cases c1:dG e.name=0
  case neg =>
   rw [if_pos c1] at hf hc
   rw [hc,hf]
   refine zO Tryz.func80 67<|zq<|zS<|zq<|zB 0<|zP 1 [{}] [.aa [9,8,3,2,1,0] [1]] []<|dQ 9 (e.kind == (1:Int)) fX<|zS<|zP 2 [yH [(2,yV (ai (dG e.name)))],yH [(1,yV (ao true))]] [.aa [15,4,9,8,3,2,1,0] [1]] [yI (fi e.name hn),yB (ao (dG e.name != (0:Int))=ao true) (by simp [c1])]<|zT 15<|zq<|dW<|bl<|aW (cE)
  rw [if_neg ah] at hf hc
  have iw:=na e.kh e.kr
  rw [hc,hf]
  refine zO Tryz.func80 67<|zq<|zS<|zq<|zB 0<|zP 1 [{}] [.aa [9,8,3,2,1,0] [1]] []<|dQ 9 (e.kind == (1:Int)) fX<|zS<|zP 2 [yH [(2,yV (ai (dG e.name)))],yH [(1,yV (ao false))]] [.aa [15,4,9,8,3,2,1,0] [1]] [yI (fi e.name hn),yB (ao (dG e.name != (0:Int))=ao false) (by simp [c1])]<|zF 15<|a8<|zP 2 [yH [(2,yV (AV.br [AV.own 1 (ag (cT e.kh e.kr)),ai (eE e.kh)]))],yH [(2,yV (AV.agg (aU (b_ e.name)))),(4,yV (AV.agg (aU (dC (cT e.kh e.kr)))))]] [.aa [3,2,6,5,15,4,9,8,1,0] [28,1020,1]] [yI (gr e.kh e.kr),yI (aV (cT e.kh e.kr)),yI (qu e.name),yI (vT (cT e.kh e.kr) ah)]<|zR<|bl<|aW (cE)
 by_cases k2:e.kind=2
 ·have hf:eF e=dG e.name:=by unfold eF;rw [if_neg k1,if_pos k2]
  have hc:K6 e= [b_ e.name]:=by unfold K6;rw [if_neg k1,if_pos k2]
  rw [hf,hc]
  refine zO Tryz.func80 67<|zq<|zS<|zq<|zB 0<|zP 1 [{}] [.aa [9,8,3,2,1,0] [1]] []<|bo 9 (e.kind == (1:Int)) bR<|zq<|dQ 30 (e.kind == (2:Int)) fX<|zS<|P7 7 [3] [(2,yV (AV.agg (aU (b_ e.name)))),(3,yV (AV.own 3 (af aU [b_ e.name]))),(6,yV (ai (dG e.name)))] [yI (qu e.name),yB (lC ((aU (b_ e.name))++ [])) (Db rfl),yI (fi e.name hn)]<|ak<|a7.su [.aa [3,2,30,9,8,1,0] [35,1]] bH<|zR<|bl<|aW (cE)
 have hc:K6 e=if eF e=0 then fU e else []:=by unfold K6;rw [if_neg k1,if_neg k2]
 rw [hc]
 by_cases k3:e.kind=3
 ·have hf:eF e=if e.bB<1∨8<e.bB then 9 else 0:=by unfold eF;rw [if_neg k1,if_neg k2,if_pos k3]
  by_cases c1:1≤e.bB∧e.bB≤8
  ·rw [if_neg ah] at hf
   have hv:fU e= [aE (u64 e.bB)]:=by unfold fU;rw [if_neg k1,if_neg k2,if_pos k3]
   rw [hf,if_pos rfl,hv]
   refine zO Tryz.func80 67<|zq<|zS<|zq<|zB 0<|zP 1 [{}] [.aa [9,8,3,2,1,0] [1]] []<|bo 9 (e.kind == (1:Int)) bR<|zq<|bo 30 (e.kind == (2:Int)) bR<|zP 1 [{}] [.aa [39,30,9,8,3,2,1,0] [1]] []<|dQ 39 (e.kind == (3:Int)) fX<|zS<|zP 1 [yH [(2,yV (ao (decide ((1:Int)≤e.bB∧e.bB≤8))))]] [.aa [44,39,30,9,8,3,2,1,0] [1]] [yI (bh e.bB ((1:Int)) ((8:Int)))]<|bo 44 (!decide ((1:Int)≤e.bB∧e.bB≤8)) (by simp_all)<|a8<|zP 1 [yH [(2,yV (aw (u64 e.bB))),(3,yV (AV.agg (aU (aE (u64 e.bB)))))]] [.aa [3,2,44,39,30,9,8,1,0] [49,1]] [yI (a6 e.bB),yI (gL (u64 e.bB))]<|zR<|bl<|aW (cE)
  ·rw [if_pos ah] at hf
   rw [hf,if_neg ah]
   refine zO Tryz.func80 67<|zq<|zS<|zq<|zB 0<|zP 1 [{}] [.aa [9,8,3,2,1,0] [1]] []<|bo 9 (e.kind == (1:Int)) bR<|zq<|bo 30 (e.kind == (2:Int)) bR<|zP 1 [{}] [.aa [39,30,9,8,3,2,1,0] [1]] []<|dQ 39 (e.kind == (3:Int)) fX<|zS<|zP 1 [yH [(2,yV (ao (decide ((1:Int)≤e.bB∧e.bB≤8))))]] [.aa [44,39,30,9,8,3,2,1,0] [1]] [yI (bh e.bB ((1:Int)) ((8:Int)))]<|dQ 44 (!decide ((1:Int)≤e.bB∧e.bB≤8)) (by simp;omega)<|zq<|dW<|bl<|aW (cE)
 by_cases k4:e.kind=4
 ·have hf:eF e=fk e.dep:=by unfold eF;rw [if_neg k1,if_neg k2,if_neg k3,if_pos k4]
  have hv:fU e=uR e.dep:=by unfold fU;rw [if_neg k1,if_neg k2,if_neg k3,if_pos k4]
  rw [hf,hv]
  have H3:=Bx e.dep hd
  generalize (if fk e.dep=0 then uR e.dep else [])=V at *
  generalize fk e.dep=E at *
  refine zO Tryz.func80 67<|zq<|zS<|zq<|zB 0<|zP 1 [{}] [.aa [9,8,3,2,1,0] [1]] []<|bo 9 (e.kind == (1:Int)) bR<|zq<|bo 30 (e.kind == (2:Int)) bR<|zP 1 [{}] [.aa [39,30,9,8,3,2,1,0] [1]] []<|bo 39 (e.kind == (3:Int)) bR<|zq<|dQ 50 (e.kind == (4:Int)) fX<|zP 1 [yH [(2,{av:=some (AV.br [AV.own 3 (af aU V),ai E]),b:=false})]] [.aa [3,2,50,39,30,9,8,1,0] [1054,1]] [yI H3]<|zR<|bl<|aW (cE)
 have hf:eF e=if e.target=0 then 9 else 0:=by unfold eF;rw [if_neg k1,if_neg k2,if_neg k3,if_neg k4]
 by_cases c1:e.target=0
 ·rw [if_pos c1] at hf
  rw [hf,if_neg ah]
  refine zO Tryz.func80 67<|zq<|zS<|zq<|zB 0<|zP 1 [{}] [.aa [9,8,3,2,1,0] [1]] []<|bo 9 (e.kind == (1:Int)) bR<|zq<|bo 30 (e.kind == (2:Int)) bR<|zP 1 [{}] [.aa [39,30,9,8,3,2,1,0] [1]] []<|bo 39 (e.kind == (3:Int)) bR<|zq<|bo 50 (e.kind == (4:Int)) bR<|zK<|aM<|ak<|zS<|zP 1 [yH [(2,yV (ao (e.target == 0)))]] [.aa [59,50,39,30,9,8,3,2,1,0] [1]] [yI (fV e.target 0)]<|dQ 59 (e.target == 0) fX<|zq<|dW (cE)
 rw [if_neg c1] at hf
 have hv:fU e= [aE e.cm,aE e.target]:=by unfold fU;rw [if_neg k1,if_neg k2,if_neg k3,if_neg k4]
 rw [hf,if_pos rfl,hv]
 refine zO Tryz.func80 67<|zq<|zS<|zq<|zB 0<|zP 1 [{}] [.aa [9,8,3,2,1,0] [1]] []<|bo 9 (e.kind == (1:Int)) bR<|zq<|bo 30 (e.kind == (2:Int)) bR<|zP 1 [{}] [.aa [39,30,9,8,3,2,1,0] [1]] []<|bo 39 (e.kind == (3:Int)) bR<|zq<|bo 50 (e.kind == (4:Int)) bR<|zK<|aM<|ak<|zS<|zP 1 [yH [(2,yV (ao (e.target == 0)))]] [.aa [59,50,39,30,9,8,3,2,1,0] [1]] [yI (fV e.target 0)]<|bo 59 (e.target == 0) bR<|a8<|zP 1 [{hs:=[(2,yV (AV.agg (aU (aE e.cm)))),(5,yV (AV.agg (aU (aE e.target))))],T:=5}] [.aa [3,2,59,50,39,30,9,8,1,0] [66,1]] [yI (gL e.cm),yI (gL e.target)]<|zR (cE)
theorem JJ (k:Int) (h1:1≤k) (h5:k≤5):bK Tryz.prog 82 [ai k] (ai (fe k)):=by
 by_cases k1:k=1
 ·have e:fe k=2:=if_pos (.inl k1)
  refine zO Tryz.func82 9<|zq<|zS<|zq<|zB 0<|zS<|zq<|dQ 4 (k == (1:Int)) fX<|a8<|dQ 4 (k == (1:Int)) fX<|zq<|zR<|bl<|aW (zV [yJ 2 (↑(fe k):Int) (by rw [e];rfl)])
 by_cases k5:k=5
 ·have e:fe k=2:=if_pos (.inr k5)
  refine zO Tryz.func82 9<|zq<|zS<|zq<|zB 0<|zS<|zq<|bo 4 (k == (1:Int)) bR<|zX {} []<|ak<|dQ 4 (k == (5:Int)) fX<|zP 1 [{}] [.aa [2,4,3,0] []] []<|zR<|bl<|aW (zV [yJ 2 (↑(fe k):Int) (by rw [e];rfl)])
 by_cases k4:k=4
 ·have e:fe k=6:=by unfold fe;rw [if_neg ah,if_pos k4]
  refine zO Tryz.func82 9<|zq<|zS<|zq<|zB 0<|zS<|zq<|bo 4 (k == (1:Int)) bR<|zX {} []<|ak<|bo 4 (k == (5:Int)) bR<|zP 1 [{}] [.aa [7,4,3,2,0] []] []<|dQ 7 (k == (4:Int)) fX<|zq<|zR<|bl<|aW (zV [yJ 6 (↑(fe k):Int) (by rw [e];rfl)])
 ·have e:fe k=1:=by unfold fe;rw [if_neg ah,if_neg k4]
  refine zO Tryz.func82 9<|zq<|zS<|zq<|zB 0<|zS<|zq<|bo 4 (k == (1:Int)) bR<|zX {} []<|ak<|bo 4 (k == (5:Int)) bR<|zP 1 [{}] [.aa [7,4,3,2,0] []] []<|bo 7 (k == (4:Int)) bR<|zK<|aM<|ak<|zq<|zR (zV [yJ 1 (↑(fe k):Int) (by rw [e];rfl)])
theorem vg (b:List UInt8) (hb:b.length≤1000000):bK Tryz.prog 56 [.sl 1 (ag b)] (aw (hash 16 b)):=by
 refine zO Tryz.func56 5<|zP 2 [{},yH [(1,yV (aw (hash (16:Int) b)))]] [.aa [2,0] []] [yI (ig ((16:Int)) b ah)]<|zR (cE)
def Ji (x:fo):Prop:=x.kind=3∨x.kind=4∨x.cC= []
theorem KN (e:eK):∀x∈fH e,Ji x:=by
 have hu (n:UInt64):Ji (aE n):=.inr (.inr rfl)
 have ha (n:UInt64):Ji (bz n):=.inr (.inr rfl)
 have ht (b:List UInt8):Ji (b_ b):=.inr (.inl rfl)
 have hb (b:List UInt8):Ji (dC b):=.inl rfl
 intro x hx
 unfold fH at hx
 rcases List.mem_append.1 hx with hx|hx
 ·simp only [List.mem_cons,List.not_mem_nil,or_false] at hx
  rcases hx with rfl|rfl|rfl|rfl
  ·exact ha _
  ·exact hu _
  ·exact hu _
  ·exact hu _
 unfold fU uR at hx
 split at hx
 ·simp only [List.mem_cons,List.not_mem_nil,or_false] at hx
  rcases hx with rfl|rfl
  ·exact ht _
  ·exact hb _
 split at hx
 ·obtain rfl:=List.mem_singleton.1 hx;exact ht _
 split at hx
 ·obtain rfl:=List.mem_singleton.1 hx;exact hu _
 split at hx
 ·simp only [List.mem_append,List.mem_cons,List.not_mem_nil,or_false,List.mem_map] at hx
  rcases hx with ((((rfl|rfl|rfl))|(rfl|⟨_,_,rfl⟩))|(rfl|⟨_,_,rfl⟩))|rfl
  ·exact hu _
  ·exact hu _
  ·exact hb _
  ·exact ha _
  ·exact ht _
  ·exact ha _
  ·exact hu _
  ·exact hu _
 ·simp only [List.mem_cons,List.not_mem_nil,or_false] at hx
  rcases hx with rfl|rfl
  ·exact hu _
  ·exact hu _
theorem Hr {l:List fo} {i:Nat} (h:i<l.length):List.take 3 (List.drop (i*3) (af aU l))=aU (l.getD i default):=kj (e:=3) (fun _=>rfl) h
theorem Fy (l:List fo) {i:Nat} (h:i<l.length):gF (l.take i)++i_ (l.getD i default)=gF (l.take (i+1)):=by
 unfold gF
 rw [List.take_add_one,List.flatMap_append,List.getD_eq_getElem?_getD,List.getElem?_eq_getElem h]
 simp
theorem zk (e:eK) (hB:ob e):bK Tryz.prog 40 [.agg (bk e)] (.br [.own 1 (ag (j0 e)),ai (eY e)]):=by
 by_cases c:eY e=0
 case neg =>
  have hb:j0 e= []:=if_neg c
  rw [hb]
  unfold eY
  by_cases k1:1≤e.kind∧e.kind≤5
  case neg =>
   rw [if_pos ah]
   refine zO Tryz.func40 64<|zq<|zS<|zB 0<|zP 1 [yH [(2,yV (ao (decide ((1:Int)≤e.kind∧e.kind≤5))))]] [.aa [9,3,2,1,0] [1]] [yI (bh e.kind ((1:Int)) ((5:Int)))]<|dQ 9 (!decide ((1:Int)≤e.kind∧e.kind≤5)) (by simp;omega)<|zq<|zR<|bl<|aW (cE)
  rw [if_neg ah]
  by_cases c1:eN e
  case neg =>
   rw [if_pos c1]
   refine zO Tryz.func40 64<|zq<|zS<|zB 0<|zP 1 [yH [(2,yV (ao (decide ((1:Int)≤e.kind∧e.kind≤5))))]] [.aa [9,3,2,1,0] [1]] [yI (bh e.kind ((1:Int)) ((5:Int)))]<|bo 9 (!decide ((1:Int)≤e.kind∧e.kind≤5)) (by simp_all)<|zP 1 [yH [(1,yV (ao (decide (eN e))))]] [.aa [14,9,3,2,1,0] [1]] [yI (jl e)]<|dQ 14 (!decide (eN e)) (by simp_all)<|zq<|zR<|bl<|aW (cE)
  rw [if_neg (fun q=>q c1)]
  by_cases q1:1≤e.aC∧e.aC≤2147483647
  case neg =>
   rw [if_pos ah]
   refine zO Tryz.func40 64<|zq<|zS<|zB 0<|zP 1 [yH [(2,yV (ao (decide ((1:Int)≤e.kind∧e.kind≤5))))]] [.aa [9,3,2,1,0] [1]] [yI (bh e.kind ((1:Int)) ((5:Int)))]<|bo 9 (!decide ((1:Int)≤e.kind∧e.kind≤5)) (by simp_all)<|zP 1 [yH [(1,yV (ao (decide (eN e))))]] [.aa [14,9,3,2,1,0] [1]] [yI (jl e)]<|bo 14 (!decide (eN e)) (by simp_all)<|zP 1 [yH [(2,yV (ao (decide ((1:Int)≤e.aC∧e.aC≤2147483647))))]] [.aa [18,14,9,3,2,1,0] [1]] [yI (bh e.aC ((1:Int)) ((2147483647:Int)))]<|dQ 18 (!decide ((1:Int)≤e.aC∧e.aC≤2147483647)) (by simp;omega)<|zq<|zR<|bl<|aW (cE)
  rw [if_neg ah]
  have LJ:eF e≠0:=by
   unfold eY at c
   rwa [if_neg ah,if_neg (fun q=>q c1),if_neg ah] at c
  refine zO Tryz.func40 64<|zq<|zS<|zB 0<|zP 1 [yH [(2,yV (ao (decide ((1:Int)≤e.kind∧e.kind≤5))))]] [.aa [9,3,2,1,0] [1]] [yI (bh e.kind ((1:Int)) ((5:Int)))]<|bo 9 (!decide ((1:Int)≤e.kind∧e.kind≤5)) (by simp_all)<|zP 1 [yH [(1,yV (ao (decide (eN e))))]] [.aa [14,9,3,2,1,0] [1]] [yI (jl e)]<|bo 14 (!decide (eN e)) (by simp_all)<|zP 1 [yH [(2,yV (ao (decide ((1:Int)≤e.aC∧e.aC≤2147483647))))]] [.aa [18,14,9,3,2,1,0] [1]] [yI (bh e.aC ((1:Int)) ((2147483647:Int)))]<|bo 18 (!decide ((1:Int)≤e.aC∧e.aC≤2147483647)) (by simp_all)<|zK<|aM<|ak<|zP 1 [yH [(1,{av:=some (AV.br [AV.own 3 (af aU (K6 e)),ai (eF e)]),b:=false})]] [.aa [5,4,18,14,9,3,2,1,0] [1025,1]] [yI (rX e ah ah hB)]<|zS<|zQ 1 [yH [(1,yV (ao true))]] [yB (ao (eF e != (0:Int))=ao true) (by simp [LJ])]<|zT 29<|zP 1 [{}] [.aa [3,2,29,5,4,18,14,9,1,0] [1025,1]] []<|dW (cE)
 have hb:j0 e=gF (fH e):=if_pos c
 rw [hb,c]
 obtain ⟨v1,v2,v3,v4,v5,v6,v7⟩:=x7 c
 unfold eY at c
 by_cases k1:1≤e.kind∧e.kind≤5
 case neg=>rw [if_pos ah] at c;omega
 rw [if_neg ah] at c
 by_cases c1:eN e
 case neg=>rw [if_pos c1] at c;omega
 rw [if_neg (fun q=>q c1)] at c
 by_cases q1:1≤e.aC∧e.aC≤2147483647
 case neg=>rw [if_pos ah] at c;omega
 rw [if_neg ah] at c
 have hf:=rX e k1.1 k1.2 hB
 rw [c,Ns c] at hf
 have ht:=Dc e.kind
 have hv:(af aU (fU e)).length≤90:=by
  have:(fH e).length=4+(fU e).length:=by unfold fH;rw [List.length_append];rfl
  rw [aG (e:=3) (fun _=>rfl)];omega
 have w1:IntKind.i64.wrap (3+(fe e.kind:Int))=3+(fe e.kind:Int):=by rw [IntKind.wrap_i64];omega
 have s1:af aU [bz (u64 (3+fe e.kind)),aE (u64 e.aC),aE e.prev,aE (u64 e.kind)]++af aU (fU e)=af aU (fH e):=fO _ _
 have SG:∀i,i<(fH e).length->ea ((fH e).getD i default).kind∧((fH e).getD i default).cC.length≤10000:=fun i hi=>by
  rw [List.getD_eq_getElem?_getD,List.getElem?_eq_getElem hi]
  exact v6 _ (List.getElem_mem hi)
 have UU:∀i,i<(fH e).length->((fH e).getD i default).kind=3∨((fH e).getD i default).kind=4∨((fH e).getD i default).cC= []:=fun i hi=>by
  rw [List.getD_eq_getElem?_getD,List.getElem?_eq_getElem hi]
  exact KN e _ (List.getElem_mem hi)
 have hlen:∀i,(gF ((fH e).take i)).length≤300270:=fun i=>pU (n:=30) (fun x hx=>(v6 x (List.mem_of_mem_take hx)).2) (by rw [List.length_take];omega)
 clear v1 v2 v3 v4 v6 v7 hb
 refine zO Tryz.func40 64<|zq<|zS<|zB 0<|zP 1 [yH [(2,yV (ao (decide ((1:Int)≤e.kind∧e.kind≤5))))]] [.aa [9,3,2,1,0] [1]] [yI (bh e.kind ((1:Int)) ((5:Int)))]<|bo 9 (!decide ((1:Int)≤e.kind∧e.kind≤5)) (by simp_all)<|zP 1 [yH [(1,yV (ao (decide (eN e))))]] [.aa [14,9,3,2,1,0] [1]] [yI (jl e)]<|bo 14 (!decide (eN e)) (by simp_all)<|zP 1 [yH [(2,yV (ao (decide ((1:Int)≤e.aC∧e.aC≤2147483647))))]] [.aa [18,14,9,3,2,1,0] [1]] [yI (bh e.aC ((1:Int)) ((2147483647:Int)))]<|bo 18 (!decide ((1:Int)≤e.aC∧e.aC≤2147483647)) (by simp_all)<|zK<|aM<|ak<|zP 1 [yH [(1,{av:=some (AV.br [AV.own 3 (af aU (fU e)),ai 0]),b:=false})]] [.aa [5,4,18,14,9,3,2,1,0] [1025,1]] [yI hf]<|zS<|zq<|zF 29<|a8<|zS<|P7 18 [16] [(2,yV (ai (↑(fe e.kind):Int))),(3,yV (ai ((3:Int)+(↑(fe e.kind):Int)))),(4,yV (AV.agg [ai ((bz (u64 ((3:Int)+(↑(fe e.kind):Int)))).kind),aw ((bz (u64 ((3:Int)+(↑(fe e.kind):Int)))).num),AV.val (Value.string (ByteArray.mk (bz (u64 ((3:Int)+(↑(fe e.kind):Int)))).cC.toArray))])),(7,yV (aw (u64 e.aC))),(8,yV (AV.agg (aU (aE (u64 e.aC))))),(11,yV (AV.agg (aU (aE e.prev)))),(14,yV (aw (u64 e.kind))),(15,yV (AV.agg (aU (aE (u64 e.kind))))),(18,{av:=some (AV.arr (af aU (fH e))),b:=false}),(19,yV (AV.ref 49))] [yI (JJ e.kind ah ah),yN ((3:Int)+(↑(fe e.kind):Int)),yI (tI ((3:Int)+(↑(fe e.kind):Int))),yI (a6 e.aC),yI (gL (u64 e.aC)),yI (gL e.prev),yI (a6 e.kind),yI (gL (u64 e.kind)),yB (lC ([ai ((bz (u64 ((3:Int)+(↑(fe e.kind):Int)))).kind),aw ((bz (u64 ((3:Int)+(↑(fe e.kind):Int)))).num),AV.val (Value.string (ByteArray.mk (bz (u64 ((3:Int)+(↑(fe e.kind):Int)))).cC.toArray))]++((aU (aE (u64 e.aC)))++((aU (aE e.prev))++((aU (aE (u64 e.kind)))++ []))))) (Db rfl),yR (af aU (fH e)),yB (dh (af aU (fU e))) (hY vV _),yO ((12+(af aU (fU e)).length)*32≤422212465065984),yR (AV.ref 49)]<|ak<|a7.su [.aa [6,29,5,4,18,14,9,3,2,1,0] [49,1025,1]] bH<|zq<|zS<|a7.mW 1 [{}] bH (s':=AS.mk [(8,ai 0),(7,AV.nil),(6,AV.ref 49),(29,ao ((0:Int) != (0:Int))),(5,ai 0),(4,AV.ref 1025),(18,ao (!decide ((1:Int)≤e.aC∧e.aC≤2147483647))),(14,ao (!decide (eN e))),(9,ao (!decide ((1:Int)≤e.kind∧e.kind≤5))),(3,ai 0),(2,AV.nil),(1,AV.addr 1 0),(0,AV.agg (bk e))] [(49,Row.mk 3 true false (af aU (fH e))),(1025,Row.mk 3 true false (af aU (fU e))),(1,Row.mk 1 false true (List.map (aQ 49) (dr 47 (Row.mk 1 false true (List.map (aQ 1025) (List.map (aQ 1) (bk e))))).cells))]) (C:=[]) bH trivial<|zB 1 ?_
 have HY:(af aU (fH e)).length=(fH e).length*3:=aG (e:=3) (fun _=>rfl) ..
 generalize fH e=A at *
 refine zL (fun (i:Nat)=>(⟨[(6,AV.ref 49),(29,ao ((0:Int) != (0:Int))),(5,ai 0),(4,AV.ref 1025),(18,ao (!decide ((1:Int)≤e.aC∧e.aC≤2147483647))),(14,ao (!decide (eN e))),(9,ao (!decide ((1:Int)≤e.kind∧e.kind≤5))),(3,ai 0),(2,AV.nil),(1,AV.addr 1 0),(0,AV.agg (bk e)),(8,ai i),(7,AV.ref 7)],[(49,⟨3,true,false,af aU A⟩),(1025,⟨3,true,false,af aU (fU e)⟩),(7,⟨1,true,false,ag (gF (A.take i))⟩),(1,⟨1,false,true,bk e⟩)]⟩:AS)) (fun i=>(i≤A.length)) (fun i=>(A.length-i)) (0) ?_ (zW [.nil 7 7 1,.aa [6,29,5,4,18,14,9,3,2,1,0,8,7] [49,1025,7,1]]) ?_
 ·omega
 intro i hi
 refine zS<|zP 1 [yH [(2,{k:=A.length})]] [.aa [53,6,29,5,4,18,14,9,3,2,1,0,8,7] [49,1025,7,1]] [yI HY] (zD 53 ((↑i:Int)<(↑A.length:Int)) (fun g=>?_) (fun g=>?_))
 ·have dM:i<A.length:=ah
  have ix:=Hr dM
  have hs:=SG i dM
  have hx:=w7 _ hs.1 ah (UU i dM)
  have sI:=hlen i
  have pK:=AL (A.getD i default)
  have es:=Fy A dM
  refine a8<|zS<|zB 2<|zX (yH [(3,{k:=i}),(4,yV (AV.agg (aU (A.getD i default)))),(5,yV (dw (i_ (A.getD i default)))),(6,{av:=some (AV.arr (ag (gF (List.take i A)++(i_ (A.getD i default)).toArray.toList))),b:=false})]) [yR (↑i:Int),yO (i*3<(af aU A).length),yu aU A i 0 3,yR 3,yI hx,yB (ag (gF (List.take i A))++ag (i_ (A.getD i default)).toArray.toList=ag (gF (List.take i A)++(i_ (A.getD i default)).toArray.toList)) (cQ _ _),yB (dh (ag (i_ (A.getD i default)).toArray.toList)) (fF _),yB (((ag (gF (List.take i A))).length+(ag (i_ (A.getD i default)).toArray.toList).length)*1≤140737488355328) (by simp only [aA];omega)]<|aM<|ak<|zX (yH [(1,yV (ai ((↑i:Int)+1)))]) [yN ((↑i:Int)+1)] (aI (i+1) (by assumption) ah (e_ [.vS 62 7,.aa [6,29,5,4,18,14,9,3,2,1,0,8,7] [49,1025,7,1]] [] [7] [yB (ag (gF (List.take i A)++(i_ (A.getD i default)).toArray.toList)=ag (gF (List.take (i+1) A))) (by rw [←es])]))
 ·have ei:i=A.length:=ah
  subst ei
  refine zE 1<|aY<|aN<|bm<|ak<|zq<|zR (zV [yB (ag (gF (List.take A.length A))=ag (gF A)) (by rw [List.take_length]),yR (Value.int .i64 0)])
end Go.Proofs.YtjgbhhnghedgdaaGreatDoor
