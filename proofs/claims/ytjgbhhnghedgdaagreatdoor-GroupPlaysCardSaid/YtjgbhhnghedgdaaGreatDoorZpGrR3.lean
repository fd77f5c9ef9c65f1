import Derived.Test.YtjgbhhnghedgdaaGreatDoorZpGrR1
import Derived.Test.YtjgbhhnghedgdaaGreatDoorZpGrR5
set_option linter.all false
namespace Go.Proofs.YtjgbhhnghedgdaaGreatDoor
open Go.RowKit
set_option maxRecDepth 100000
set_option maxHeartbeats 4000000
def isVal:AV->Bool
 | .val _=>true
 | _=>false
theorem Dw {l:List AV} (h:l.all isVal=true):ld l:=fun x hx=>by
 have:=List.all_eq_true.1 h x hx
 cases x<;>first|exact ⟨_,rfl⟩|cases this
def Lc (e:fo):List fE:=if e.kind=1 then (if dV e.name≠0 then [] else [cy e.name,dQ (dc e.kh e.kr)]) else if e.kind=2 then [cy e.name] else if eW e=0 then ga e else []
theorem Nj {e:fo} (h:eW e=0):Lc e=ga e:=by
 unfold Lc
 rw [show ga e=if e.kind=1 then [cy e.name,dQ (dc e.kh e.kr)] else if e.kind=2 then [cy e.name] else ga e by unfold ga;by_cases k1:e.kind=1;simp [k1];by_cases k2:e.kind=2;simp [k2];simp [k1,k2]]
 by_cases k1:e.kind=1
 ·have:dV e.name=0:=by
   unfold eW at h
   rw [if_pos k1] at h
   apply Classical.byContradiction;intro q;rw [if_pos q] at h;exact q h
  rw [if_pos k1,if_pos k1,if_neg aj]
 rw [if_neg k1,if_neg k1]
 by_cases k2:e.kind=2
 ·rw [if_pos k2,if_pos k2]
 rw [if_neg k2,if_neg k2,if_pos h]
theorem r_ (e:fo) (h1:1≤e.kind) (h5:e.kind≤5) (hB:mQ e):bK Tryz.prog 80 [.agg (bX e)] (.br [.own 3 (af aY (Lc e)),ai (eW e)]):=by
 obtain ⟨hn,hd⟩:=hB
 have hz:=qA e.name hn
 by_cases k1:e.kind=1
 ·have hf:eW e=if dV e.name≠0 then dV e.name else eT e.kh:=if_pos k1
  have hc:Lc e=if dV e.name≠0 then [] else [cy e.name,dQ (dc e.kh e.kr)]:=if_pos k1
  by_cases c1:dV e.name=0
  case neg =>
   rw [if_pos c1] at hf hc
   rw [hc,hf]
   refine zO Tryz.func80 67<|zq<|zS<|zq<|zB 0<|zP 1 [{}] [.aa [9,8,3,2,1,0] [1]] []<|dr 9 (e.kind == (1:Int)) fi<|zS<|zP 2 [yH [(2,yV (ai (dV e.name)))],yH [(1,yV (ao true))]] [.aa [15,4,9,8,3,2,1,0] [1]] [yI (fz e.name hn),yB (ao (dV e.name != (0:Int))=ao true) (by simp [c1])]<|zT 15<|zq<|dt<|bc<|aK (bU)
  rw [if_neg aj] at hf hc
  have iF:=nm e.kh e.kr
  rw [hc,hf]
  refine zO Tryz.func80 67<|zq<|zS<|zq<|zB 0<|zP 1 [{}] [.aa [9,8,3,2,1,0] [1]] []<|dr 9 (e.kind == (1:Int)) fi<|zS<|zP 2 [yH [(2,yV (ai (dV e.name)))],yH [(1,yV (ao false))]] [.aa [15,4,9,8,3,2,1,0] [1]] [yI (fz e.name hn),yB (ao (dV e.name != (0:Int))=ao false) (by simp [c1])]<|zF 15<|a7<|zP 2 [yH [(2,yV (AV.br [AV.own 1 (ag (dc e.kh e.kr)),ai (eT e.kh)]))],yH [(2,yV (AV.agg (aY (cy e.name)))),(4,yV (AV.agg (aY (dQ (dc e.kh e.kr)))))]] [.aa [3,2,6,5,15,4,9,8,1,0] [28,1020,1]] [yI (gF e.kh e.kr),yI (aQ (dc e.kh e.kr)),yI (qG e.name),yI (wa (dc e.kh e.kr) aj)]<|zR<|bc<|aK (bU)
 by_cases k2:e.kind=2
 ·have hf:eW e=dV e.name:=by unfold eW;rw [if_neg k1,if_pos k2]
  have hc:Lc e= [cy e.name]:=by unfold Lc;rw [if_neg k1,if_pos k2]
  rw [hf,hc]
  refine zO Tryz.func80 67<|zq<|zS<|zq<|zB 0<|zP 1 [{}] [.aa [9,8,3,2,1,0] [1]] []<|bj 9 (e.kind == (1:Int)) bE<|zq<|dr 30 (e.kind == (2:Int)) fi<|zS<|P9 7 [3] [(2,yV (AV.agg (aY (cy e.name)))),(3,yV (AV.own 3 (af aY [cy e.name]))),(6,yV (ai (dV e.name)))] [yI (qG e.name),yB (ld ((aY (cy e.name))++ [])) (Dw rfl),yI (fz e.name hn)]<|ak<|bf.rG [.aa [3,2,30,9,8,1,0] [35,1]] bD<|zR<|bc<|aK (bU)
 have hc:Lc e=if eW e=0 then ga e else []:=by unfold Lc;rw [if_neg k1,if_neg k2]
 rw [hc]
 by_cases k3:e.kind=3
 ·have hf:eW e=if e.bt<1∨8<e.bt then 9 else 0:=by unfold eW;rw [if_neg k1,if_neg k2,if_pos k3]
  by_cases c1:1≤e.bt∧e.bt≤8
  ·rw [if_neg aj] at hf
   have hv:ga e= [aF (u64 e.bt)]:=by unfold ga;rw [if_neg k1,if_neg k2,if_pos k3]
   rw [hf,if_pos rfl,hv]
   refine zO Tryz.func80 67<|zq<|zS<|zq<|zB 0<|zP 1 [{}] [.aa [9,8,3,2,1,0] [1]] []<|bj 9 (e.kind == (1:Int)) bE<|zq<|bj 30 (e.kind == (2:Int)) bE<|zP 1 [{}] [.aa [39,30,9,8,3,2,1,0] [1]] []<|dr 39 (e.kind == (3:Int)) fi<|zS<|zP 1 [yH [(2,yV (ao (decide ((1:Int)≤e.bt∧e.bt≤8))))]] [.aa [44,39,30,9,8,3,2,1,0] [1]] [yI (bn e.bt ((1:Int)) ((8:Int)))]<|bj 44 (!decide ((1:Int)≤e.bt∧e.bt≤8)) (by simp_all)<|a7<|zP 1 [yH [(2,yV (aw (u64 e.bt))),(3,yV (AV.agg (aY (aF (u64 e.bt)))))]] [.aa [3,2,44,39,30,9,8,1,0] [49,1]] [yI (a8 e.bt),yI (gW (u64 e.bt))]<|zR<|bc<|aK (bU)
  ·rw [if_pos aj] at hf
   rw [hf,if_neg aj]
   refine zO Tryz.func80 67<|zq<|zS<|zq<|zB 0<|zP 1 [{}] [.aa [9,8,3,2,1,0] [1]] []<|bj 9 (e.kind == (1:Int)) bE<|zq<|bj 30 (e.kind == (2:Int)) bE<|zP 1 [{}] [.aa [39,30,9,8,3,2,1,0] [1]] []<|dr 39 (e.kind == (3:Int)) fi<|zS<|zP 1 [yH [(2,yV (ao (decide ((1:Int)≤e.bt∧e.bt≤8))))]] [.aa [44,39,30,9,8,3,2,1,0] [1]] [yI (bn e.bt ((1:Int)) ((8:Int)))]<|dr 44 (!decide ((1:Int)≤e.bt∧e.bt≤8)) (by simp;omega)<|zq<|dt<|bc<|aK (bU)
 by_cases k4:e.kind=4
 ·have hf:eW e=fC e.dep:=by unfold eW;rw [if_neg k1,if_neg k2,if_neg k3,if_pos k4]
  have hv:ga e=uZ e.dep:=by unfold ga;rw [if_neg k1,if_neg k2,if_neg k3,if_pos k4]
  rw [hf,hv]
  have Ie:=BR e.dep hd
  generalize (if fC e.dep=0 then uZ e.dep else [])=V at *
  generalize fC e.dep=E at *
  refine zO Tryz.func80 67<|zq<|zS<|zq<|zB 0<|zP 1 [{}] [.aa [9,8,3,2,1,0] [1]] []<|bj 9 (e.kind == (1:Int)) bE<|zq<|bj 30 (e.kind == (2:Int)) bE<|zP 1 [{}] [.aa [39,30,9,8,3,2,1,0] [1]] []<|bj 39 (e.kind == (3:Int)) bE<|zq<|dr 50 (e.kind == (4:Int)) fi<|zP 1 [yH [(2,{av:=some (AV.br [AV.own 3 (af aY V),ai E]),b:=false})]] [.aa [3,2,50,39,30,9,8,1,0] [1054,1]] [yI Ie]<|zR<|bc<|aK (bU)
 have hf:eW e=if e.target=0 then 9 else 0:=by unfold eW;rw [if_neg k1,if_neg k2,if_neg k3,if_neg k4]
 by_cases c1:e.target=0
 ·rw [if_pos c1] at hf
  rw [hf,if_neg aj]
  refine zO Tryz.func80 67<|zq<|zS<|zq<|zB 0<|zP 1 [{}] [.aa [9,8,3,2,1,0] [1]] []<|bj 9 (e.kind == (1:Int)) bE<|zq<|bj 30 (e.kind == (2:Int)) bE<|zP 1 [{}] [.aa [39,30,9,8,3,2,1,0] [1]] []<|bj 39 (e.kind == (3:Int)) bE<|zq<|bj 50 (e.kind == (4:Int)) bE<|zK<|aL<|ak<|zS<|zP 1 [yH [(2,yV (ao (e.target == 0)))]] [.aa [59,50,39,30,9,8,3,2,1,0] [1]] [yI (fm e.target 0)]<|dr 59 (e.target == 0) fi<|zq<|dt (bU)
 rw [if_neg c1] at hf
 have hv:ga e= [aF e.bF,aF e.target]:=by unfold ga;rw [if_neg k1,if_neg k2,if_neg k3,if_neg k4]
 rw [hf,if_pos rfl,hv]
 refine zO Tryz.func80 67<|zq<|zS<|zq<|zB 0<|zP 1 [{}] [.aa [9,8,3,2,1,0] [1]] []<|bj 9 (e.kind == (1:Int)) bE<|zq<|bj 30 (e.kind == (2:Int)) bE<|zP 1 [{}] [.aa [39,30,9,8,3,2,1,0] [1]] []<|bj 39 (e.kind == (3:Int)) bE<|zq<|bj 50 (e.kind == (4:Int)) bE<|zK<|aL<|ak<|zS<|zP 1 [yH [(2,yV (ao (e.target == 0)))]] [.aa [59,50,39,30,9,8,3,2,1,0] [1]] [yI (fm e.target 0)]<|bj 59 (e.target == 0) bE<|a7<|zP 1 [{hs:=[(2,yV (AV.agg (aY (aF e.bF)))),(5,yV (AV.agg (aY (aF e.target))))],T:=5}] [.aa [3,2,59,50,39,30,9,8,1,0] [66,1]] [yI (gW e.bF),yI (gW e.target)]<|zR (bU)
theorem JQ (k:Int) (h1:1≤k) (h5:k≤5):bK Tryz.prog 82 [ai k] (ai (fw k)):=by
 by_cases k1:k=1
 ·have e:fw k=2:=if_pos (.inl k1)
  refine zO Tryz.func82 9<|zq<|zS<|zq<|zB 0<|zS<|zq<|dr 4 (k == (1:Int)) fi<|a7<|dr 4 (k == (1:Int)) fi<|zq<|zR<|bc<|aK (zV [yJ 2 (↑(fw k):Int) (by rw [e];rfl)])
 by_cases k5:k=5
 ·have e:fw k=2:=if_pos (.inr k5)
  refine zO Tryz.func82 9<|zq<|zS<|zq<|zB 0<|zS<|zq<|bj 4 (k == (1:Int)) bE<|zX {} []<|ak<|dr 4 (k == (5:Int)) fi<|zP 1 [{}] [.aa [2,4,3,0] []] []<|zR<|bc<|aK (zV [yJ 2 (↑(fw k):Int) (by rw [e];rfl)])
 by_cases k4:k=4
 ·have e:fw k=6:=by unfold fw;rw [if_neg aj,if_pos k4]
  refine zO Tryz.func82 9<|zq<|zS<|zq<|zB 0<|zS<|zq<|bj 4 (k == (1:Int)) bE<|zX {} []<|ak<|bj 4 (k == (5:Int)) bE<|zP 1 [{}] [.aa [7,4,3,2,0] []] []<|dr 7 (k == (4:Int)) fi<|zq<|zR<|bc<|aK (zV [yJ 6 (↑(fw k):Int) (by rw [e];rfl)])
 ·have e:fw k=1:=by unfold fw;rw [if_neg aj,if_neg k4]
  refine zO Tryz.func82 9<|zq<|zS<|zq<|zB 0<|zS<|zq<|bj 4 (k == (1:Int)) bE<|zX {} []<|ak<|bj 4 (k == (5:Int)) bE<|zP 1 [{}] [.aa [7,4,3,2,0] []] []<|bj 7 (k == (4:Int)) bE<|zK<|aL<|ak<|zq<|zR (zV [yJ 1 (↑(fw k):Int) (by rw [e];rfl)])
theorem oz (b:List UInt8) (hb:b.length≤1000000):bK Tryz.prog 56 [.sl 1 (ag b)] (aw (hash 16 b)):=by
 refine zO Tryz.func56 5<|zP 2 [{},yH [(1,yV (aw (hash (16:Int) b)))]] [.aa [2,0] []] [yI (iy ((16:Int)) b aj)]<|zR (bU)
def Jt (x:fE):Prop:=x.kind=3∨x.kind=4∨x.cK= []
theorem KT (e:fo):∀x∈fS e,Jt x:=by
 have hu (n:UInt64):Jt (aF n):=.inr (.inr rfl)
 have ha (n:UInt64):Jt (bC n):=.inr (.inr rfl)
 have ht (b:List UInt8):Jt (cy b):=.inr (.inl rfl)
 have hb (b:List UInt8):Jt (dQ b):=.inl rfl
 intro x hx
 unfold fS at hx
 rcases List.mem_append.1 hx with hx|hx
 ·simp only [List.mem_cons,List.not_mem_nil,or_false] at hx
  rcases hx with rfl|rfl|rfl|rfl
  ·exact ha _
  ·exact hu _
  ·exact hu _
  ·exact hu _
 unfold ga uZ at hx
 split at hx
 ·simp only [List.mem_cons,List.not_mem_nil,or_false] at hx
  rcases hx with rfl|rfl
  ·exact ht _
  ·exact hb _
 split at hx
 ·obtain rfl:=List.mem_singleton.1 hx;exact ht _
 split at hx
 ·obtain rfl:=List.mem_singleton.1 hx;exact hu _
 split at hx
 ·simp only [List.mem_append,List.mem_cons,List.not_mem_nil,or_false,List.mem_map] at hx
  rcases hx with ((((rfl|rfl|rfl))|(rfl|⟨_,_,rfl⟩))|(rfl|⟨_,_,rfl⟩))|rfl
  ·exact hu _
  ·exact hu _
  ·exact hb _
  ·exact ha _
  ·exact ht _
  ·exact ha _
  ·exact hu _
  ·exact hu _
 ·simp only [List.mem_cons,List.not_mem_nil,or_false] at hx
  rcases hx with rfl|rfl
  ·exact hu _
  ·exact hu _
theorem HD {l:List fE} {i:Nat} (h:i<l.length):List.take 3 (List.drop (i*3) (af aY l))=aY (l.getD i default):=km (e:=3) (fun _=>rfl) h
theorem FK (l:List fE) {i:Nat} (h:i<l.length):gQ (l.take i)++jg (l.getD i default)=gQ (l.take (i+1)):=by
 unfold gQ
 rw [List.take_add_one,List.flatMap_append,List.getD_eq_getElem?_getD,List.getElem?_eq_getElem h]
 simp
theorem rO (e:fo) (hB:mQ e):bK Tryz.prog 40 [.agg (bX e)] (.br [.own 1 (ag (fA e)),ai (eh e)]):=by
 by_cases c:eh e=0
 case neg =>
  have hb:fA e= []:=if_neg c
  rw [hb]
  unfold eh
  by_cases k1:1≤e.kind∧e.kind≤5
  case neg =>
   rw [if_pos aj]
   refine zO Tryz.func40 64<|zq<|zS<|zB 0<|zP 1 [yH [(2,yV (ao (decide ((1:Int)≤e.kind∧e.kind≤5))))]] [.aa [9,3,2,1,0] [1]] [yI (bn e.kind ((1:Int)) ((5:Int)))]<|dr 9 (!decide ((1:Int)≤e.kind∧e.kind≤5)) (by simp;omega)<|zq<|zR<|bc<|aK (bU)
  rw [if_neg aj]
  by_cases c1:fa e
  case neg =>
   rw [if_pos c1]
   refine zO Tryz.func40 64<|zq<|zS<|zB 0<|zP 1 [yH [(2,yV (ao (decide ((1:Int)≤e.kind∧e.kind≤5))))]] [.aa [9,3,2,1,0] [1]] [yI (bn e.kind ((1:Int)) ((5:Int)))]<|bj 9 (!decide ((1:Int)≤e.kind∧e.kind≤5)) (by simp_all)<|zP 1 [yH [(1,yV (ao (decide (fa e))))]] [.aa [14,9,3,2,1,0] [1]] [yI (jt e)]<|dr 14 (!decide (fa e)) (by simp_all)<|zq<|zR<|bc<|aK (bU)
  rw [if_neg (fun q=>q c1)]
  by_cases q1:1≤e.aA∧e.aA≤2147483647
  case neg =>
   rw [if_pos aj]
   refine zO Tryz.func40 64<|zq<|zS<|zB 0<|zP 1 [yH [(2,yV (ao (decide ((1:Int)≤e.kind∧e.kind≤5))))]] [.aa [9,3,2,1,0] [1]] [yI (bn e.kind ((1:Int)) ((5:Int)))]<|bj 9 (!decide ((1:Int)≤e.kind∧e.kind≤5)) (by simp_all)<|zP 1 [yH [(1,yV (ao (decide (fa e))))]] [.aa [14,9,3,2,1,0] [1]] [yI (jt e)]<|bj 14 (!decide (fa e)) (by simp_all)<|zP 1 [yH [(2,yV (ao (decide ((1:Int)≤e.aA∧e.aA≤2147483647))))]] [.aa [18,14,9,3,2,1,0] [1]] [yI (bn e.aA ((1:Int)) ((2147483647:Int)))]<|dr 18 (!decide ((1:Int)≤e.aA∧e.aA≤2147483647)) (by simp;omega)<|zq<|zR<|bc<|aK (bU)
  rw [if_neg aj]
  have LJ:eW e≠0:=by
   unfold eh at c
   rwa [if_neg aj,if_neg (fun q=>q c1),if_neg aj] at c
  refine zO Tryz.func40 64<|zq<|zS<|zB 0<|zP 1 [yH [(2,yV (ao (decide ((1:Int)≤e.kind∧e.kind≤5))))]] [.aa [9,3,2,1,0] [1]] [yI (bn e.kind ((1:Int)) ((5:Int)))]<|bj 9 (!decide ((1:Int)≤e.kind∧e.kind≤5)) (by simp_all)<|zP 1 [yH [(1,yV (ao (decide (fa e))))]] [.aa [14,9,3,2,1,0] [1]] [yI (jt e)]<|bj 14 (!decide (fa e)) (by simp_all)<|zP 1 [yH [(2,yV (ao (decide ((1:Int)≤e.aA∧e.aA≤2147483647))))]] [.aa [18,14,9,3,2,1,0] [1]] [yI (bn e.aA ((1:Int)) ((2147483647:Int)))]<|bj 18 (!decide ((1:Int)≤e.aA∧e.aA≤2147483647)) (by simp_all)<|zK<|aL<|ak<|zP 1 [yH [(1,{av:=some (AV.br [AV.own 3 (af aY (Lc e)),ai (eW e)]),b:=false})]] [.aa [5,4,18,14,9,3,2,1,0] [1025,1]] [yI (r_ e aj aj hB)]<|zS<|zQ 1 [yH [(1,yV (ao true))]] [yB (ao (eW e != (0:Int))=ao true) (by simp [LJ])]<|zT 29<|zP 1 [{}] [.aa [3,2,29,5,4,18,14,9,1,0] [1025,1]] []<|dt (bU)
 have hb:fA e=gQ (fS e):=if_pos c
 rw [hb,c]
 obtain ⟨v1,v2,v3,v4,v5,v6,v7⟩:=yw c
 unfold eh at c
 by_cases k1:1≤e.kind∧e.kind≤5
 case neg=>rw [if_pos aj] at c;omega
 rw [if_neg aj] at c
 by_cases c1:fa e
 case neg=>rw [if_pos c1] at c;omega
 rw [if_neg (fun q=>q c1)] at c
 by_cases q1:1≤e.aA∧e.aA≤2147483647
 case neg=>rw [if_pos aj] at c;omega
 rw [if_neg aj] at c
 have hf:=r_ e k1.1 k1.2 hB
 rw [c,Nj c] at hf
 have ht:=Dx e.kind
 have hv:(af aY (ga e)).length≤90:=by
  have:(fS e).length=4+(ga e).length:=by unfold fS;rw [List.length_append];rfl
  rw [aE (e:=3) (fun _=>rfl)];omega
 have w1:IntKind.i64.wrap (3+(fw e.kind:Int))=3+(fw e.kind:Int):=by rw [IntKind.wrap_i64];omega
 have s1:af aY [bC (u64 (3+fw e.kind)),aF (u64 e.aA),aF e.prev,aF (u64 e.kind)]++af aY (ga e)=af aY (fS e):=fB _ _
 have SE:∀i,i<(fS e).length->eH ((fS e).getD i default).kind∧((fS e).getD i default).cK.length≤10000:=fun i hi=>by
  rw [List.getD_eq_getElem?_getD,List.getElem?_eq_getElem hi]
  exact v6 _ (List.getElem_mem hi)
 have UJ:∀i,i<(fS e).length->((fS e).getD i default).kind=3∨((fS e).getD i default).kind=4∨((fS e).getD i default).cK= []:=fun i hi=>by
  rw [List.getD_eq_getElem?_getD,List.getElem?_eq_getElem hi]
  exact KT e _ (List.getElem_mem hi)
 have hlen:∀i,(gQ ((fS e).take i)).length≤300270:=fun i=>qd (n:=30) (fun x hx=>(v6 x (List.mem_of_mem_take hx)).2) (by rw [List.length_take];omega)
 clear v1 v2 v3 v4 v6 v7 hb
 refine zO Tryz.func40 64<|zq<|zS<|zB 0<|zP 1 [yH [(2,yV (ao (decide ((1:Int)≤e.kind∧e.kind≤5))))]] [.aa [9,3,2,1,0] [1]] [yI (bn e.kind ((1:Int)) ((5:Int)))]<|bj 9 (!decide ((1:Int)≤e.kind∧e.kind≤5)) (by simp_all)<|zP 1 [yH [(1,yV (ao (decide (fa e))))]] [.aa [14,9,3,2,1,0] [1]] [yI (jt e)]<|bj 14 (!decide (fa e)) (by simp_all)<|zP 1 [yH [(2,yV (ao (decide ((1:Int)≤e.aA∧e.aA≤2147483647))))]] [.aa [18,14,9,3,2,1,0] [1]] [yI (bn e.aA ((1:Int)) ((2147483647:Int)))]<|bj 18 (!decide ((1:Int)≤e.aA∧e.aA≤2147483647)) (by simp_all)<|zK<|aL<|ak<|zP 1 [yH [(1,{av:=some (AV.br [AV.own 3 (af aY (ga e)),ai 0]),b:=false})]] [.aa [5,4,18,14,9,3,2,1,0] [1025,1]] [yI hf]<|zS<|zq<|zF 29<|a7<|zS<|P9 18 [16] [(2,yV (ai (↑(fw e.kind):Int))),(3,yV (ai ((3:Int)+(↑(fw e.kind):Int)))),(4,yV (AV.agg [ai ((bC (u64 ((3:Int)+(↑(fw e.kind):Int)))).kind),aw ((bC (u64 ((3:Int)+(↑(fw e.kind):Int)))).num),AV.val (Value.string (ByteArray.mk (bC (u64 ((3:Int)+(↑(fw e.kind):Int)))).cK.toArray))])),(7,yV (aw (u64 e.aA))),(8,yV (AV.agg (aY (aF (u64 e.aA))))),(11,yV (AV.agg (aY (aF e.prev)))),(14,yV (aw (u64 e.kind))),(15,yV (AV.agg (aY (aF (u64 e.kind))))),(18,{av:=some (AV.arr (af aY (fS e))),b:=false}),(19,yV (AV.ref 49))] [yI (JQ e.kind aj aj),yN ((3:Int)+(↑(fw e.kind):Int)),yI (tO ((3:Int)+(↑(fw e.kind):Int))),yI (a8 e.aA),yI (gW (u64 e.aA)),yI (gW e.prev),yI (a8 e.kind),yI (gW (u64 e.kind)),yB (ld ([ai ((bC (u64 ((3:Int)+(↑(fw e.kind):Int)))).kind),aw ((bC (u64 ((3:Int)+(↑(fw e.kind):Int)))).num),AV.val (Value.string (ByteArray.mk (bC (u64 ((3:Int)+(↑(fw e.kind):Int)))).cK.toArray))]++((aY (aF (u64 e.aA)))++((aY (aF e.prev))++((aY (aF (u64 e.kind)))++ []))))) (Dw rfl),yR (af aY (fS e)),yB (cH (af aY (ga e))) (dG wh _),yO ((12+(af aY (ga e)).length)*32≤422212465065984),yR (AV.ref 49)]<|ak<|bf.rG [.aa [6,29,5,4,18,14,9,3,2,1,0] [49,1025,1]] bD<|zq<|zS<|bf.na 1 [{}] bD (s':=AS.mk [(8,ai 0),(7,AV.nil),(6,AV.ref 49),(29,ao ((0:Int) != (0:Int))),(5,ai 0),(4,AV.ref 1025),(18,ao (!decide ((1:Int)≤e.aA∧e.aA≤2147483647))),(14,ao (!decide (fa e))),(9,ao (!decide ((1:Int)≤e.kind∧e.kind≤5))),(3,ai 0),(2,AV.nil),(1,AV.addr 1 0),(0,AV.agg (bX e))] [(49,Row.mk 3 true false (af aY (fS e))),(1025,Row.mk 3 true false (af aY (ga e))),(1,Row.mk 1 false true (List.map (aR 49) (dJ 47 (Row.mk 1 false true (List.map (aR 1025) (List.map (aR 1) (bX e))))).cells))]) (C:=[]) bD trivial<|zB 1 ?_
 have MK:(af aY (fS e)).length=(fS e).length*3:=aE (e:=3) (fun _=>rfl) ..
 generalize fS e=A at *
 refine zL (fun (i:Nat)=>(⟨[(6,AV.ref 49),(29,ao ((0:Int) != (0:Int))),(5,ai 0),(4,AV.ref 1025),(18,ao (!decide ((1:Int)≤e.aA∧e.aA≤2147483647))),(14,ao (!decide (fa e))),(9,ao (!decide ((1:Int)≤e.kind∧e.kind≤5))),(3,ai 0),(2,AV.nil),(1,AV.addr 1 0),(0,AV.agg (bX e)),(8,ai i),(7,AV.ref 7)],[(49,⟨3,true,false,af aY A⟩),(1025,⟨3,true,false,af aY (ga e)⟩),(7,⟨1,true,false,ag (gQ (A.take i))⟩),(1,⟨1,false,true,bX e⟩)]⟩:AS)) (fun i=>(i≤A.length)) (fun i=>(A.length-i)) (0) ?_ (zW [.nil 7 7 1,.aa [6,29,5,4,18,14,9,3,2,1,0,8,7] [49,1025,7,1]]) ?_
 ·omega
 intro i hi
 refine zS<|zP 1 [yH [(2,{k:=A.length})]] [.aa [53,6,29,5,4,18,14,9,3,2,1,0,8,7] [49,1025,7,1]] [yI MK] (zD 53 ((↑i:Int)<(↑A.length:Int)) (fun g=>?_) (fun g=>?_))
 ·have dD:i<A.length:=aj
  have gT:=HD dD
  have hs:=SE i dD
  have hx:=xk _ hs.1 aj (UJ i dD)
  have sQ:=hlen i
  have pr:=Ba (A.getD i default)
  have es:=FK A dD
  refine a7<|zS<|zB 2<|zX (yH [(3,{k:=i}),(4,yV (AV.agg (aY (A.getD i default)))),(5,yV (cZ (jg (A.getD i default)))),(6,{av:=some (AV.arr (ag (gQ (List.take i A)++(jg (A.getD i default)).toArray.toList))),b:=false})]) [yR (↑i:Int),yO (i*3<(af aY A).length),yu aY A i 0 3,yR 3,yI hx,yB (ag (gQ (List.take i A))++ag (jg (A.getD i default)).toArray.toList=ag (gQ (List.take i A)++(jg (A.getD i default)).toArray.toList)) (cX _ _),yB (cH (ag (jg (A.getD i default)).toArray.toList)) (fQ _),yB (((ag (gQ (List.take i A))).length+(ag (jg (A.getD i default)).toArray.toList).length)*1≤140737488355328) (by simp only [aC];omega)]<|aL<|ak<|zX (yH [(1,yV (ai ((↑i:Int)+1)))]) [yN ((↑i:Int)+1)] (aH (i+1) (by assumption) aj (eJ [.sm 62 7,.aa [6,29,5,4,18,14,9,3,2,1,0,8,7] [49,1025,7,1]] [] [7] [yB (ag (gQ (List.take i A)++(jg (A.getD i default)).toArray.toList)=ag (gQ (List.take (i+1) A))) (by rw [←es])]))
 ·have ei:i=A.length:=aj
  subst ei
  refine zE 1<|a_<|aP<|bo<|ak<|zq<|zR (zV [yB (ag (gQ (List.take A.length A))=ag (gQ A)) (by rw [List.take_length]),yR (Value.int .i64 0)])
end Go.Proofs.YtjgbhhnghedgdaaGreatDoor
