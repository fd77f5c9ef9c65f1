import Derived.Test.YtjgbhhnghedgdaaGreatDoorZaGrR1
import Derived.Test.YtjgbhhnghedgdaaGreatDoorZaGrR5
set_option linter.all false
namespace Go.Proofs.YtjgbhhnghedgdaaGreatDoor
open Go.RowKit
set_option maxRecDepth 100000
set_option maxHeartbeats 4000000
def isVal:AV->Bool
 | .val _=>true
 | _=>false
theorem DP {l:List AV} (h:l.all isVal=true):lj l:=fun x hx=>by
 have:=List.all_eq_true.1 h x hx
 cases x<;>first|exact ⟨_,rfl⟩|cases this
def Ly (e:eF):List fE:=if e.kind=1 then (if d_ e.name≠0 then [] else [cA e.name,dX (di e.kh e.kr)]) else if e.kind=2 then [cA e.name] else if eY e=0 then f_ e else []
theorem NN {e:eF} (h:eY e=0):Ly e=f_ e:=by
 unfold Ly
 rw [show f_ e=if e.kind=1 then [cA e.name,dX (di e.kh e.kr)] else if e.kind=2 then [cA e.name] else f_ e by unfold f_;by_cases k1:e.kind=1;simp [k1];by_cases k2:e.kind=2;simp [k2];simp [k1,k2]]
 by_cases k1:e.kind=1
 ·have:d_ e.name=0:=by
   unfold eY at h
   rw [if_pos k1] at h
   apply Classical.byContradiction;intro q;rw [if_pos q] at h;exact q h
  rw [if_pos k1,if_pos k1,if_neg ah]
 rw [if_neg k1,if_neg k1]
 by_cases k2:e.kind=2
 ·rw [if_pos k2,if_pos k2]
 rw [if_neg k2,if_neg k2,if_pos h]
theorem sk (e:eF) (h1:1≤e.kind) (h5:e.kind≤5) (hB:mN e):bK Tryz.prog 80 [.agg (aT e)] (.bq [.own 3 (af aU (Ly e)),ai (eY e)]):=by
 obtain ⟨hn,hd⟩:=hB
 have hz:=qI e.name hn
 by_cases k1:e.kind=1
 ·have hf:eY e=if d_ e.name≠0 then d_ e.name else eU e.kh:=if_pos k1
  have hc:Ly e=if d_ e.name≠0 then [] else [cA e.name,dX (di e.kh e.kr)]:=if_pos k1
  by_cases c1:d_ e.name=0
  case neg =>
   rw [if_pos c1] at hf hc
   rw [hc,hf]
   refine zO Tryz.func80 67<|zq<|zS<|zq<|zB 0<|zP 1 [{}] [.ae [9,8,3,2,1,0] [1]] []<|du 9 (e.kind == (1:Int)) fb<|zS<|zP 2 [yH [(2,yV (ai (d_ e.name)))],yH [(1,yV (ao true))]] [.ae [15,4,9,8,3,2,1,0] [1]] [yI (fz e.name hn),yB (ao (d_ e.name != (0:Int))=ao true) (by simp [c1])]<|zT 15<|zq<|dk<|aY<|aI (bV)
  rw [if_neg ah] at hf hc
  have iG:=nz e.kh e.kr
  rw [hc,hf]
  refine zO Tryz.func80 67<|zq<|zS<|zq<|zB 0<|zP 1 [{}] [.ae [9,8,3,2,1,0] [1]] []<|du 9 (e.kind == (1:Int)) fb<|zS<|zP 2 [yH [(2,yV (ai (d_ e.name)))],yH [(1,yV (ao false))]] [.ae [15,4,9,8,3,2,1,0] [1]] [yI (fz e.name hn),yB (ao (d_ e.name != (0:Int))=ao false) (by simp [c1])]<|zF 15<|a_<|zP 2 [yH [(2,yV (AV.bq [AV.own 1 (ag (di e.kh e.kr)),ai (eU e.kh)]))],yH [(2,yV (AV.agg (aU (cA e.name)))),(4,yV (AV.agg (aU (dX (di e.kh e.kr)))))]] [.ae [3,2,6,5,15,4,9,8,1,0] [28,1020,1]] [yI (gD e.kh e.kr),yI (aR (di e.kh e.kr)),yI (qO e.name),yI (wx (di e.kh e.kr) ah)]<|zR<|aY<|aI (bV)
 by_cases k2:e.kind=2
 ·have hf:eY e=d_ e.name:=by unfold eY;rw [if_neg k1,if_pos k2]
  have hc:Ly e= [cA e.name]:=by unfold Ly;rw [if_neg k1,if_pos k2]
  rw [hf,hc]
  refine zO Tryz.func80 67<|zq<|zS<|zq<|zB 0<|zP 1 [{}] [.ae [9,8,3,2,1,0] [1]] []<|bj 9 (e.kind == (1:Int)) bE<|zq<|du 30 (e.kind == (2:Int)) fb<|zS<|Qz 7 [3] [(2,yV (AV.agg (aU (cA e.name)))),(3,yV (AV.own 3 (af aU [cA e.name]))),(6,yV (ai (d_ e.name)))] [yI (qO e.name),yB (lj ((aU (cA e.name))++ [])) (DP rfl),yI (fz e.name hn)]<|ak<|bf.sv [.ae [3,2,30,9,8,1,0] [35,1]] bh<|zR<|aY<|aI (bV)
 have hc:Ly e=if eY e=0 then f_ e else []:=by unfold Ly;rw [if_neg k1,if_neg k2]
 rw [hc]
 by_cases k3:e.kind=3
 ·have hf:eY e=if e.bt<1∨8<e.bt then 9 else 0:=by unfold eY;rw [if_neg k1,if_neg k2,if_pos k3]
  by_cases c1:1≤e.bt∧e.bt≤8
  ·rw [if_neg ah] at hf
   have hv:f_ e= [aG (u64 e.bt)]:=by unfold f_;rw [if_neg k1,if_neg k2,if_pos k3]
   rw [hf,if_pos rfl,hv]
   refine zO Tryz.func80 67<|zq<|zS<|zq<|zB 0<|zP 1 [{}] [.ae [9,8,3,2,1,0] [1]] []<|bj 9 (e.kind == (1:Int)) bE<|zq<|bj 30 (e.kind == (2:Int)) bE<|zP 1 [{}] [.ae [39,30,9,8,3,2,1,0] [1]] []<|du 39 (e.kind == (3:Int)) fb<|zS<|zP 1 [yH [(2,yV (ao (decide ((1:Int)≤e.bt∧e.bt≤8))))]] [.ae [44,39,30,9,8,3,2,1,0] [1]] [yI (bo e.bt ((1:Int)) ((8:Int)))]<|bj 44 (!decide ((1:Int)≤e.bt∧e.bt≤8)) (by simp_all)<|a_<|zP 1 [yH [(2,yV (aw (u64 e.bt))),(3,yV (AV.agg (aU (aG (u64 e.bt)))))]] [.ae [3,2,44,39,30,9,8,1,0] [49,1]] [yI (a6 e.bt),yI (gX (u64 e.bt))]<|zR<|aY<|aI (bV)
  ·rw [if_pos ah] at hf
   rw [hf,if_neg ah]
   refine zO Tryz.func80 67<|zq<|zS<|zq<|zB 0<|zP 1 [{}] [.ae [9,8,3,2,1,0] [1]] []<|bj 9 (e.kind == (1:Int)) bE<|zq<|bj 30 (e.kind == (2:Int)) bE<|bf.jW 1 [{}] [.ae [39,30,9,8,3,2,1,0] [1]] bh (s':=AS.mk [(39,ao (e.kind == (3:Int))),(30,ao (e.kind == (2:Int))),(9,ao (e.kind == (1:Int))),(8,ai e.kind),(3,ai 0),(2,AV.nil),(1,AV.addr 1 0),(0,AV.agg (aT e))] [(1,Row.mk 1 false true (List.map (aD 1) (aT e)))]) (C:=[]) bh trivial<|du 39 (e.kind == (3:Int)) fb<|zS<|zP 1 [yH [(2,yV (ao (decide ((1:Int)≤e.bt∧e.bt≤8))))]] [.ae [44,39,30,9,8,3,2,1,0] [1]] [yI (bo e.bt ((1:Int)) ((8:Int)))]<|du 44 (!decide ((1:Int)≤e.bt∧e.bt≤8)) (by simp;omega)<|zq<|dk<|aY<|aI (bV)
 by_cases k4:e.kind=4
 ·have hf:eY e=fC e.dep:=by unfold eY;rw [if_neg k1,if_neg k2,if_neg k3,if_pos k4]
  have hv:f_ e=vd e.dep:=by unfold f_;rw [if_neg k1,if_neg k2,if_neg k3,if_pos k4]
  rw [hf,hv]
  have IC:=B4 e.dep hd
  generalize (if fC e.dep=0 then vd e.dep else [])=V at *
  generalize fC e.dep=E at *
  refine zO Tryz.func80 67<|zq<|zS<|zq<|zB 0<|zP 1 [{}] [.ae [9,8,3,2,1,0] [1]] []<|bj 9 (e.kind == (1:Int)) bE<|zq<|bj 30 (e.kind == (2:Int)) bE<|zP 1 [{}] [.ae [39,30,9,8,3,2,1,0] [1]] []<|bj 39 (e.kind == (3:Int)) bE<|zq<|du 50 (e.kind == (4:Int)) fb<|zP 1 [yH [(2,{av:=some (AV.bq [AV.own 3 (af aU V),ai E]),b:=false})]] [.ae [3,2,50,39,30,9,8,1,0] [1054,1]] [yI IC]<|zR<|aY<|aI (bV)
 have hf:eY e=if e.target=0 then 9 else 0:=by unfold eY;rw [if_neg k1,if_neg k2,if_neg k3,if_neg k4]
 by_cases c1:e.target=0
 ·rw [if_pos c1] at hf
  rw [hf,if_neg ah]
  refine zO Tryz.func80 67<|zq<|zS<|zq<|zB 0<|zP 1 [{}] [.ae [9,8,3,2,1,0] [1]] []<|bj 9 (e.kind == (1:Int)) bE<|zq<|bj 30 (e.kind == (2:Int)) bE<|zP 1 [{}] [.ae [39,30,9,8,3,2,1,0] [1]] []<|bj 39 (e.kind == (3:Int)) bE<|zq<|bj 50 (e.kind == (4:Int)) bE<|zK<|aM<|ak<|zS<|zP 1 [yH [(2,yV (ao (e.target == 0)))]] [.ae [59,50,39,30,9,8,3,2,1,0] [1]] [yI (fo e.target 0)]<|du 59 (e.target == 0) fb<|zq<|dk (bV)
 rw [if_neg c1] at hf
 have hv:f_ e= [aG e.bR,aG e.target]:=by unfold f_;rw [if_neg k1,if_neg k2,if_neg k3,if_neg k4]
 rw [hf,if_pos rfl,hv]
 refine zO Tryz.func80 67<|zq<|zS<|zq<|zB 0<|zP 1 [{}] [.ae [9,8,3,2,1,0] [1]] []<|bj 9 (e.kind == (1:Int)) bE<|zq<|bj 30 (e.kind == (2:Int)) bE<|zP 1 [{}] [.ae [39,30,9,8,3,2,1,0] [1]] []<|bj 39 (e.kind == (3:Int)) bE<|zq<|bj 50 (e.kind == (4:Int)) bE<|zK<|aM<|ak<|zS<|zP 1 [yH [(2,yV (ao (e.target == 0)))]] [.ae [59,50,39,30,9,8,3,2,1,0] [1]] [yI (fo e.target 0)]<|bj 59 (e.target == 0) bE<|a_<|zP 1 [{hs:=[(2,yV (AV.agg (aU (aG e.bR)))),(5,yV (AV.agg (aU (aG e.target))))],T:=5}] [.ae [3,2,59,50,39,30,9,8,1,0] [66,1]] [yI (gX e.bR),yI (gX e.target)]<|zR (bV)
theorem Ke (k:Int) (h1:1≤k) (h5:k≤5):bK Tryz.prog 82 [ai k] (ai (fw k)):=by
 by_cases k1:k=1
 ·have e:fw k=2:=if_pos (.inl k1)
  refine zO Tryz.func82 9<|zq<|zS<|zq<|zB 0<|zS<|zq<|du 4 (k == (1:Int)) fb<|a_<|du 4 (k == (1:Int)) fb<|zq<|zR<|aY<|aI (zV [yJ 2 (↑(fw k):Int) (by rw [e];rfl)])
 by_cases k5:k=5
 ·have e:fw k=2:=if_pos (.inr k5)
  refine zO Tryz.func82 9<|zq<|zS<|zq<|zB 0<|zS<|zq<|bj 4 (k == (1:Int)) bE<|zX {} []<|ak<|du 4 (k == (5:Int)) fb<|zP 1 [{}] [.ae [2,4,3,0] []] []<|zR<|aY<|aI (zV [yJ 2 (↑(fw k):Int) (by rw [e];rfl)])
 by_cases k4:k=4
 ·have e:fw k=6:=by unfold fw;rw [if_neg ah,if_pos k4]
  refine zO Tryz.func82 9<|zq<|zS<|zq<|zB 0<|zS<|zq<|bj 4 (k == (1:Int)) bE<|zX {} []<|ak<|bj 4 (k == (5:Int)) bE<|zP 1 [{}] [.ae [7,4,3,2,0] []] []<|du 7 (k == (4:Int)) fb<|zq<|zR<|aY<|aI (zV [yJ 6 (↑(fw k):Int) (by rw [e];rfl)])
 ·have e:fw k=1:=by unfold fw;rw [if_neg ah,if_neg k4]
  refine zO Tryz.func82 9<|zq<|zS<|zq<|zB 0<|zS<|zq<|bj 4 (k == (1:Int)) bE<|zX {} []<|ak<|bj 4 (k == (5:Int)) bE<|zP 1 [{}] [.ae [7,4,3,2,0] []] []<|bj 7 (k == (4:Int)) bE<|zK<|aM<|ak<|bf.i9 1 [{}] bh (s':=AS.mk [(2,ai 1),(7,ao (k == (4:Int))),(4,ao (k == (5:Int))),(3,ai k),(0,ai k)] []) (C:=[]) bh trivial<|zR (zV [yJ 1 (↑(fw k):Int) (by rw [e];rfl)])
theorem oH (b:List UInt8) (hb:b.length≤1000000):bK Tryz.prog 56 [.sl 1 (ag b)] (aw (hash 16 b)):=by
 refine zO Tryz.func56 5<|zP 2 [{},yH [(1,yV (aw (hash (16:Int) b)))]] [.ae [2,0] []] [yI (ix ((16:Int)) b ah)]<|zR (bV)
def JS (x:fE):Prop:=x.kind=3∨x.kind=4∨x.cI= []
theorem Lf (e:eF):∀x∈fQ e,JS x:=by
 have hu (n:UInt64):JS (aG n):=.inr (.inr rfl)
 have ha (n:UInt64):JS (bD n):=.inr (.inr rfl)
 have ht (b:List UInt8):JS (cA b):=.inr (.inl rfl)
 have hb (b:List UInt8):JS (dX b):=.inl rfl
 intro x hx
 unfold fQ at hx
 rcases List.mem_append.1 hx with hx|hx
 ·simp only [List.mem_cons,List.not_mem_nil,or_false] at hx
  rcases hx with rfl|rfl|rfl|rfl
  ·exact ha _
  ·exact hu _
  ·exact hu _
  ·exact hu _
 unfold f_ vd at hx
 split at hx
 ·simp only [List.mem_cons,List.not_mem_nil,or_false] at hx
  rcases hx with rfl|rfl
  ·exact ht _
  ·exact hb _
 split at hx
 ·obtain rfl:=List.mem_singleton.1 hx;exact ht _
 split at hx
 ·obtain rfl:=List.mem_singleton.1 hx;exact hu _
 split at hx
 ·simp only [List.mem_append,List.mem_cons,List.not_mem_nil,or_false,List.mem_map] at hx
  rcases hx with ((((rfl|rfl|rfl))|(rfl|⟨_,_,rfl⟩))|(rfl|⟨_,_,rfl⟩))|rfl
  ·exact hu _
  ·exact hu _
  ·exact hb _
  ·exact ha _
  ·exact ht _
  ·exact ha _
  ·exact hu _
  ·exact hu _
 ·simp only [List.mem_cons,List.not_mem_nil,or_false] at hx
  rcases hx with rfl|rfl
  ·exact hu _
  ·exact hu _
theorem H0 {l:List fE} {i:Nat} (h:i<l.length):List.take 3 (List.drop (i*3) (af aU l))=aU (l.getD i default):=jn (e:=3) (fun _=>rfl) h
theorem Gf (l:List fE) {i:Nat} (h:i<l.length):gR (l.take i)++jm (l.getD i default)=gR (l.take (i+1)):=by
 unfold gR
 rw [List.take_add_one,List.flatMap_append,List.getD_eq_getElem?_getD,List.getElem?_eq_getElem h]
 simp
theorem nn (e:eF) (hB:mN e):bK Tryz.prog 40 [.agg (aT e)] (.bq [.own 1 (ag (fA e)),ai (eu e)]):=by
 by_cases c:eu e=0
 case neg =>
  have hb:fA e= []:=if_neg c
  rw [hb]
  unfold eu
  by_cases k1:1≤e.kind∧e.kind≤5
  case neg =>
   rw [if_pos ah]
   refine zO Tryz.func40 64<|zq<|zS<|zB 0<|zP 1 [yH [(2,yV (ao (decide ((1:Int)≤e.kind∧e.kind≤5))))]] [.ae [9,3,2,1,0] [1]] [yI (bo e.kind ((1:Int)) ((5:Int)))]<|du 9 (!decide ((1:Int)≤e.kind∧e.kind≤5)) (by simp;omega)<|zq<|zR<|aY<|aI (bV)
  rw [if_neg ah]
  by_cases c1:fe e
  case neg =>
   rw [if_pos c1]
   refine zO Tryz.func40 64<|zq<|zS<|zB 0<|zP 1 [yH [(2,yV (ao (decide ((1:Int)≤e.kind∧e.kind≤5))))]] [.ae [9,3,2,1,0] [1]] [yI (bo e.kind ((1:Int)) ((5:Int)))]<|bj 9 (!decide ((1:Int)≤e.kind∧e.kind≤5)) (by simp_all)<|zP 1 [yH [(1,yV (ao (decide (fe e))))]] [.ae [14,9,3,2,1,0] [1]] [yI (jx e)]<|du 14 (!decide (fe e)) (by simp_all)<|zq<|zR<|aY<|aI (bV)
  rw [if_neg (fun q=>q c1)]
  by_cases q1:1≤e.aB∧e.aB≤2147483647
  case neg =>
   rw [if_pos ah]
   refine zO Tryz.func40 64<|zq<|zS<|zB 0<|zP 1 [yH [(2,yV (ao (decide ((1:Int)≤e.kind∧e.kind≤5))))]] [.ae [9,3,2,1,0] [1]] [yI (bo e.kind ((1:Int)) ((5:Int)))]<|bj 9 (!decide ((1:Int)≤e.kind∧e.kind≤5)) (by simp_all)<|zP 1 [yH [(1,yV (ao (decide (fe e))))]] [.ae [14,9,3,2,1,0] [1]] [yI (jx e)]<|bj 14 (!decide (fe e)) (by simp_all)<|zP 1 [yH [(2,yV (ao (decide ((1:Int)≤e.aB∧e.aB≤2147483647))))]] [.ae [18,14,9,3,2,1,0] [1]] [yI (bo e.aB ((1:Int)) ((2147483647:Int)))]<|du 18 (!decide ((1:Int)≤e.aB∧e.aB≤2147483647)) (by simp;omega)<|zq<|zR<|aY<|aI (bV)
  rw [if_neg ah]
  have Ma:eY e≠0:=by
   unfold eu at c
   rwa [if_neg ah,if_neg (fun q=>q c1),if_neg ah] at c
  refine zO Tryz.func40 64<|zq<|zS<|zB 0<|zP 1 [yH [(2,yV (ao (decide ((1:Int)≤e.kind∧e.kind≤5))))]] [.ae [9,3,2,1,0] [1]] [yI (bo e.kind ((1:Int)) ((5:Int)))]<|bj 9 (!decide ((1:Int)≤e.kind∧e.kind≤5)) (by simp_all)<|zP 1 [yH [(1,yV (ao (decide (fe e))))]] [.ae [14,9,3,2,1,0] [1]] [yI (jx e)]<|bj 14 (!decide (fe e)) (by simp_all)<|zP 1 [yH [(2,yV (ao (decide ((1:Int)≤e.aB∧e.aB≤2147483647))))]] [.ae [18,14,9,3,2,1,0] [1]] [yI (bo e.aB ((1:Int)) ((2147483647:Int)))]<|bj 18 (!decide ((1:Int)≤e.aB∧e.aB≤2147483647)) (by simp_all)<|zK<|aM<|ak<|zP 1 [yH [(1,{av:=some (AV.bq [AV.own 3 (af aU (Ly e)),ai (eY e)]),b:=false})]] [.ae [5,4,18,14,9,3,2,1,0] [1025,1]] [yI (sk e ah ah hB)]<|zS<|zQ 1 [yH [(1,yV (ao true))]] [yB (ao (eY e != (0:Int))=ao true) (by simp [Ma])]<|zT 29<|zP 1 [{}] [.ae [3,2,29,5,4,18,14,9,1,0] [1025,1]] []<|dk (bV)
 have hb:fA e=gR (fQ e):=if_pos c
 rw [hb,c]
 obtain ⟨v1,v2,v3,v4,v5,v6,v7⟩:=yX c
 unfold eu at c
 by_cases k1:1≤e.kind∧e.kind≤5
 case neg=>rw [if_pos ah] at c;omega
 rw [if_neg ah] at c
 by_cases c1:fe e
 case neg=>rw [if_pos c1] at c;omega
 rw [if_neg (fun q=>q c1)] at c
 by_cases q1:1≤e.aB∧e.aB≤2147483647
 case neg=>rw [if_pos ah] at c;omega
 rw [if_neg ah] at c
 have hf:=sk e k1.1 k1.2 hB
 rw [c,NN c] at hf
 have ht:=DQ e.kind
 have hv:(af aU (f_ e)).length≤90:=by
  have:(fQ e).length=4+(f_ e).length:=by unfold fQ;rw [List.length_append];rfl
  rw [aF (e:=3) (fun _=>rfl)];omega
 have w1:IntKind.i64.wrap (3+(fw e.kind:Int))=3+(fw e.kind:Int):=by rw [IntKind.wrap_i64];omega
 have s1:af aU [bD (u64 (3+fw e.kind)),aG (u64 e.aB),aG e.prev,aG (u64 e.kind)]++af aU (f_ e)=af aU (fQ e):=fB _ _
 have S5:∀i,i<(fQ e).length->eM ((fQ e).getD i default).kind∧((fQ e).getD i default).cI.length≤10000:=fun i hi=>by
  rw [List.getD_eq_getElem?_getD,List.getElem?_eq_getElem hi]
  exact v6 _ (List.getElem_mem hi)
 have U8:∀i,i<(fQ e).length->((fQ e).getD i default).kind=3∨((fQ e).getD i default).kind=4∨((fQ e).getD i default).cI= []:=fun i hi=>by
  rw [List.getD_eq_getElem?_getD,List.getElem?_eq_getElem hi]
  exact Lf e _ (List.getElem_mem hi)
 have hlen:∀i,(gR ((fQ e).take i)).length≤300270:=fun i=>ql (n:=30) (fun x hx=>(v6 x (List.mem_of_mem_take hx)).2) (by rw [List.length_take];omega)
 clear v1 v2 v3 v4 v6 v7 hb
 refine zO Tryz.func40 64<|zq<|zS<|zB 0<|zP 1 [yH [(2,yV (ao (decide ((1:Int)≤e.kind∧e.kind≤5))))]] [.ae [9,3,2,1,0] [1]] [yI (bo e.kind ((1:Int)) ((5:Int)))]<|bj 9 (!decide ((1:Int)≤e.kind∧e.kind≤5)) (by simp_all)<|zP 1 [yH [(1,yV (ao (decide (fe e))))]] [.ae [14,9,3,2,1,0] [1]] [yI (jx e)]<|bj 14 (!decide (fe e)) (by simp_all)<|zP 1 [yH [(2,yV (ao (decide ((1:Int)≤e.aB∧e.aB≤2147483647))))]] [.ae [18,14,9,3,2,1,0] [1]] [yI (bo e.aB ((1:Int)) ((2147483647:Int)))]<|bj 18 (!decide ((1:Int)≤e.aB∧e.aB≤2147483647)) (by simp_all)<|zK<|aM<|ak<|zP 1 [yH [(1,{av:=some (AV.bq [AV.own 3 (af aU (f_ e)),ai 0]),b:=false})]] [.ae [5,4,18,14,9,3,2,1,0] [1025,1]] [yI hf]<|zS<|zq<|zF 29<|a_<|zS<|Qz 18 [16] [(2,yV (ai (↑(fw e.kind):Int))),(3,yV (ai ((3:Int)+(↑(fw e.kind):Int)))),(4,yV (AV.agg [ai ((bD (u64 ((3:Int)+(↑(fw e.kind):Int)))).kind),aw ((bD (u64 ((3:Int)+(↑(fw e.kind):Int)))).num),AV.val (Value.string (ByteArray.mk (bD (u64 ((3:Int)+(↑(fw e.kind):Int)))).cI.toArray))])),(7,yV (aw (u64 e.aB))),(8,yV (AV.agg (aU (aG (u64 e.aB))))),(11,yV (AV.agg (aU (aG e.prev)))),(14,yV (aw (u64 e.kind))),(15,yV (AV.agg (aU (aG (u64 e.kind))))),(18,{av:=some (AV.arr (af aU (fQ e))),b:=false}),(19,yV (AV.ref 49))] [yI (Ke e.kind ah ah),yN ((3:Int)+(↑(fw e.kind):Int)),yI (tW ((3:Int)+(↑(fw e.kind):Int))),yI (a6 e.aB),yI (gX (u64 e.aB)),yI (gX e.prev),yI (a6 e.kind),yI (gX (u64 e.kind)),yB (lj ([ai ((bD (u64 ((3:Int)+(↑(fw e.kind):Int)))).kind),aw ((bD (u64 ((3:Int)+(↑(fw e.kind):Int)))).num),AV.val (Value.string (ByteArray.mk (bD (u64 ((3:Int)+(↑(fw e.kind):Int)))).cI.toArray))]++((aU (aG (u64 e.aB)))++((aU (aG e.prev))++((aU (aG (u64 e.kind)))++ []))))) (DP rfl),yR (af aU (fQ e)),yB (cE (af aU (f_ e))) (dD wz _),yO ((12+(af aU (f_ e)).length)*32≤422212465065984),yR (AV.ref 49)]<|ak<|bf.sv [.ae [6,29,5,4,18,14,9,3,2,1,0] [49,1025,1]] bh<|zq<|zS<|bf.i9 1 [{}] bh (s':=AS.mk [(8,ai 0),(7,AV.nil),(6,AV.ref 49),(29,ao ((0:Int) != (0:Int))),(5,ai 0),(4,AV.ref 1025),(18,ao (!decide ((1:Int)≤e.aB∧e.aB≤2147483647))),(14,ao (!decide (fe e))),(9,ao (!decide ((1:Int)≤e.kind∧e.kind≤5))),(3,ai 0),(2,AV.nil),(1,AV.addr 1 0),(0,AV.agg (aT e))] [(49,Row.mk 3 true false (af aU (fQ e))),(1025,Row.mk 3 true false (af aU (f_ e))),(1,Row.mk 1 false true (List.map (aD 49) (cN 47 (Row.mk 1 false true (List.map (aD 1025) (List.map (aD 1) (aT e))))).cells))]) (C:=[]) bh trivial<|zB 1 ?_
 have Nb:(af aU (fQ e)).length=(fQ e).length*3:=aF (e:=3) (fun _=>rfl) ..
 generalize fQ e=A at *
 refine zL (fun (i:Nat)=>(⟨[(6,AV.ref 49),(29,ao ((0:Int) != (0:Int))),(5,ai 0),(4,AV.ref 1025),(18,ao (!decide ((1:Int)≤e.aB∧e.aB≤2147483647))),(14,ao (!decide (fe e))),(9,ao (!decide ((1:Int)≤e.kind∧e.kind≤5))),(3,ai 0),(2,AV.nil),(1,AV.addr 1 0),(0,AV.agg (aT e)),(8,ai i),(7,AV.ref 7)],[(49,⟨3,true,false,af aU A⟩),(1025,⟨3,true,false,af aU (f_ e)⟩),(7,⟨1,true,false,ag (gR (A.take i))⟩),(1,⟨1,false,true,aT e⟩)]⟩:AS)) (fun i=>(i≤A.length)) (fun i=>(A.length-i)) (0) ?_ (zW [.nil 7 7 1,.ae [6,29,5,4,18,14,9,3,2,1,0,8,7] [49,1025,7,1]]) ?_
 ·omega
 intro i hi
 refine zS<|zP 1 [yH [(2,{k:=A.length})]] [.ae [53,6,29,5,4,18,14,9,3,2,1,0,8,7] [49,1025,7,1]] [yI Nb] (zD 53 ((↑i:Int)<(↑A.length:Int)) (fun g=>?_) (fun g=>?_))
 ·have dz:i<A.length:=ah
  have gh:=H0 dz
  have hs:=S5 i dz
  have hx:=xw _ hs.1 ah (U8 i dz)
  have s6:=hlen i
  have pD:=Bl (A.getD i default)
  have es:=Gf A dz
  refine a_<|zS<|zB 2<|zX (yH [(3,{k:=i}),(4,yV (AV.agg (aU (A.getD i default)))),(5,yV (db (jm (A.getD i default)))),(6,{av:=some (AV.arr (ag (gR (List.take i A)++(jm (A.getD i default)).toArray.toList))),b:=false})]) [yR (↑i:Int),yO (i*3<(af aU A).length),yu aU A i 0 3,yR 3,yI hx,yB (ag (gR (List.take i A))++ag (jm (A.getD i default)).toArray.toList=ag (gR (List.take i A)++(jm (A.getD i default)).toArray.toList)) (cZ _ _),yB (cE (ag (jm (A.getD i default)).toArray.toList)) (fO _),yB (((ag (gR (List.take i A))).length+(ag (jm (A.getD i default)).toArray.toList).length)*1≤140737488355328) (by simp only [aC];omega)]<|aM<|ak<|zX (yH [(1,yV (ai ((↑i:Int)+1)))]) [yN ((↑i:Int)+1)] (aJ (i+1) (by assumption) ah (eK [.vo 62 7,.ae [6,29,5,4,18,14,9,3,2,1,0,8,7] [49,1025,7,1]] [] [7] [yB (ag (gR (List.take i A)++(jm (A.getD i default)).toArray.toList)=ag (gR (List.take (i+1) A))) (by rw [←es])]))
 ·have ei:i=A.length:=ah
  subst ei
  refine zE 1<|a7<|aO<|bn<|ak<|zq<|zR (zV [yB (ag (gR (List.take A.length A))=ag (gR A)) (by rw [List.take_length]),yR (Value.int .i64 0)])
end Go.Proofs.YtjgbhhnghedgdaaGreatDoor
