import Derived.Test.YtjgbhhnghedgdaaGreatDoorZbGrR1
import Derived.Test.YtjgbhhnghedgdaaGreatDoorZbGrR5
set_option linter.all false
namespace Go.Proofs.YtjgbhhnghedgdaaGreatDoor
open Go.RowKit
set_option maxRecDepth 100000
set_option maxHeartbeats 4000000
def isVal:AV->Bool
 | .val _=>true
 | _=>false
theorem DH {l:List AV} (h:l.all isVal=true):ll l:=fun x hx=>by
 have:=List.all_eq_true.1 h x hx
 cases x<;>first|exact ⟨_,rfl⟩|cases this
def Ll (e:eP):List fH:=if e.kind=1 then (if eg e.name≠0 then [] else [cC e.name,dZ (dk e.kh e.kr)]) else if e.kind=2 then [cC e.name] else if fa e=0 then gf e else []
theorem Nz {e:eP} (h:fa e=0):Ll e=gf e:=by
 unfold Ll
 rw [show gf e=if e.kind=1 then [cC e.name,dZ (dk e.kh e.kr)] else if e.kind=2 then [cC e.name] else gf e by unfold gf;by_cases k1:e.kind=1;simp [k1];by_cases k2:e.kind=2;simp [k2];simp [k1,k2]]
 by_cases k1:e.kind=1
 ·have:eg e.name=0:=by
   unfold fa at h
   rw [if_pos k1] at h
   apply Classical.byContradiction;intro q;rw [if_pos q] at h;exact q h
  rw [if_pos k1,if_pos k1,if_neg aj]
 rw [if_neg k1,if_neg k1]
 by_cases k2:e.kind=2
 ·rw [if_pos k2,if_pos k2]
 rw [if_neg k2,if_neg k2,if_pos h]
theorem sk (e:eP) (h1:1≤e.kind) (h5:e.kind≤5) (hB:mO e):bL Tryz.prog 80 [.agg (a7 e)] (.bt [.own 3 (ae aT (Ll e)),ai (fa e)]):=by
 obtain ⟨hn,hd⟩:=hB
 have hz:=qI e.name hn
 by_cases k1:e.kind=1
 ·have hf:fa e=if eg e.name≠0 then eg e.name else eZ e.kh:=if_pos k1
  have hc:Ll e=if eg e.name≠0 then [] else [cC e.name,dZ (dk e.kh e.kr)]:=if_pos k1
  by_cases c1:eg e.name=0
  case neg =>
   rw [if_pos c1] at hf hc
   rw [hc,hf]
   refine zO Tryz.func80 67<|zq<|zS<|zq<|zB 0<|zP 1 [{}] [.aa [9,8,3,2,1,0] [1]] []<|dB 9 (e.kind == (1:Int)) fg<|zS<|zP 2 [yH [(2,yV (ai (eg e.name)))],yH [(1,yV (ao true))]] [.aa [15,4,9,8,3,2,1,0] [1]] [yI (fD e.name hn),yB (ao (eg e.name != (0:Int))=ao true) (by simp [c1])]<|zT 15<|zq<|dn<|a6<|aI (bR)
  rw [if_neg aj] at hf hc
  have iH:=nA e.kh e.kr
  rw [hc,hf]
  refine zO Tryz.func80 67<|zq<|zS<|zq<|zB 0<|zP 1 [{}] [.aa [9,8,3,2,1,0] [1]] []<|dB 9 (e.kind == (1:Int)) fg<|zS<|zP 2 [yH [(2,yV (ai (eg e.name)))],yH [(1,yV (ao false))]] [.aa [15,4,9,8,3,2,1,0] [1]] [yI (fD e.name hn),yB (ao (eg e.name != (0:Int))=ao false) (by simp [c1])]<|zF 15<|a_<|zP 2 [yH [(2,yV (AV.bt [AV.own 1 (ag (dk e.kh e.kr)),ai (eZ e.kh)]))],yH [(2,yV (AV.agg (aT (cC e.name)))),(4,yV (AV.agg (aT (dZ (dk e.kh e.kr)))))]] [.aa [3,2,6,5,15,4,9,8,1,0] [28,1020,1]] [yI (gF e.kh e.kr),yI (aR (dk e.kh e.kr)),yI (qO e.name),yI (wu (dk e.kh e.kr) aj)]<|zR<|a6<|aI (bR)
 by_cases k2:e.kind=2
 ·have hf:fa e=eg e.name:=by unfold fa;rw [if_neg k1,if_pos k2]
  have hc:Ll e= [cC e.name]:=by unfold Ll;rw [if_neg k1,if_pos k2]
  rw [hf,hc]
  refine zO Tryz.func80 67<|zq<|zS<|zq<|zB 0<|zP 1 [{}] [.aa [9,8,3,2,1,0] [1]] []<|bn 9 (e.kind == (1:Int)) bE<|zq<|dB 30 (e.kind == (2:Int)) fg<|zS<|Ql 7 [3] [(2,yV (AV.agg (aT (cC e.name)))),(3,yV (AV.own 3 (ae aT [cC e.name]))),(6,yV (ai (eg e.name)))] [yI (qO e.name),yB (ll ((aT (cC e.name))++ [])) (DH rfl),yI (fD e.name hn)]<|aq<|bf.sU [.aa [3,2,30,9,8,1,0] [35,1]] bk<|zR<|a6<|aI (bR)
 have hc:Ll e=if fa e=0 then gf e else []:=by unfold Ll;rw [if_neg k1,if_neg k2]
 rw [hc]
 by_cases k3:e.kind=3
 ·have hf:fa e=if e.bA<1∨8<e.bA then 9 else 0:=by unfold fa;rw [if_neg k1,if_neg k2,if_pos k3]
  by_cases c1:1≤e.bA∧e.bA≤8
  ·rw [if_neg aj] at hf
   have hv:gf e= [aH (u64 e.bA)]:=by unfold gf;rw [if_neg k1,if_neg k2,if_pos k3]
   rw [hf,if_pos rfl,hv]
   refine zO Tryz.func80 67<|zq<|zS<|zq<|zB 0<|zP 1 [{}] [.aa [9,8,3,2,1,0] [1]] []<|bn 9 (e.kind == (1:Int)) bE<|zq<|bn 30 (e.kind == (2:Int)) bE<|zP 1 [{}] [.aa [39,30,9,8,3,2,1,0] [1]] []<|dB 39 (e.kind == (3:Int)) fg<|zS<|zP 1 [yH [(2,yV (ao (decide ((1:Int)≤e.bA∧e.bA≤8))))]] [.aa [44,39,30,9,8,3,2,1,0] [1]] [yI (bp e.bA ((1:Int)) ((8:Int)))]<|bn 44 (!decide ((1:Int)≤e.bA∧e.bA≤8)) (by simp_all)<|a_<|zP 1 [yH [(2,yV (aw (u64 e.bA))),(3,yV (AV.agg (aT (aH (u64 e.bA)))))]] [.aa [3,2,44,39,30,9,8,1,0] [49,1]] [yI (aY e.bA),yI (gZ (u64 e.bA))]<|zR<|a6<|aI (bR)
  ·rw [if_pos aj] at hf
   rw [hf,if_neg aj]
   refine zO Tryz.func80 67<|zq<|zS<|zq<|zB 0<|zP 1 [{}] [.aa [9,8,3,2,1,0] [1]] []<|bn 9 (e.kind == (1:Int)) bE<|zq<|bn 30 (e.kind == (2:Int)) bE<|bf.jX 1 [{}] [.aa [39,30,9,8,3,2,1,0] [1]] bk (s':=AS.mk [(39,ao (e.kind == (3:Int))),(30,ao (e.kind == (2:Int))),(9,ao (e.kind == (1:Int))),(8,ai e.kind),(3,ai 0),(2,AV.nil),(1,AV.addr 1 0),(0,AV.agg (a7 e))] [(1,Row.mk 1 false true (List.map (aE 1) (a7 e)))]) (C:=[]) bk trivial<|dB 39 (e.kind == (3:Int)) fg<|zS<|zP 1 [yH [(2,yV (ao (decide ((1:Int)≤e.bA∧e.bA≤8))))]] [.aa [44,39,30,9,8,3,2,1,0] [1]] [yI (bp e.bA ((1:Int)) ((8:Int)))]<|dB 44 (!decide ((1:Int)≤e.bA∧e.bA≤8)) (by simp;omega)<|zq<|dn<|a6<|aI (bR)
 by_cases k4:e.kind=4
 ·have hf:fa e=fF e.dep:=by unfold fa;rw [if_neg k1,if_neg k2,if_neg k3,if_pos k4]
  have hv:gf e=ve e.dep:=by unfold gf;rw [if_neg k1,if_neg k2,if_neg k3,if_pos k4]
  rw [hf,hv]
  have Iv:=BW e.dep hd
  generalize (if fF e.dep=0 then ve e.dep else [])=V at *
  generalize fF e.dep=E at *
  refine zO Tryz.func80 67<|zq<|zS<|zq<|zB 0<|zP 1 [{}] [.aa [9,8,3,2,1,0] [1]] []<|bn 9 (e.kind == (1:Int)) bE<|zq<|bn 30 (e.kind == (2:Int)) bE<|zP 1 [{}] [.aa [39,30,9,8,3,2,1,0] [1]] []<|bn 39 (e.kind == (3:Int)) bE<|zq<|dB 50 (e.kind == (4:Int)) fg<|zP 1 [yH [(2,{av:=some (AV.bt [AV.own 3 (ae aT V),ai E]),b:=false})]] [.aa [3,2,50,39,30,9,8,1,0] [1054,1]] [yI Iv]<|zR<|a6<|aI (bR)
 have hf:fa e=if e.target=0 then 9 else 0:=by unfold fa;rw [if_neg k1,if_neg k2,if_neg k3,if_neg k4]
 by_cases c1:e.target=0
 ·rw [if_pos c1] at hf
  rw [hf,if_neg aj]
  refine zO Tryz.func80 67<|zq<|zS<|zq<|zB 0<|zP 1 [{}] [.aa [9,8,3,2,1,0] [1]] []<|bn 9 (e.kind == (1:Int)) bE<|zq<|bn 30 (e.kind == (2:Int)) bE<|zP 1 [{}] [.aa [39,30,9,8,3,2,1,0] [1]] []<|bn 39 (e.kind == (3:Int)) bE<|zq<|bn 50 (e.kind == (4:Int)) bE<|zK<|aL<|aq<|zS<|zP 1 [yH [(2,yV (ao (e.target == 0)))]] [.aa [59,50,39,30,9,8,3,2,1,0] [1]] [yI (fv e.target 0)]<|dB 59 (e.target == 0) fg<|zq<|dn (bR)
 rw [if_neg c1] at hf
 have hv:gf e= [aH e.bZ,aH e.target]:=by unfold gf;rw [if_neg k1,if_neg k2,if_neg k3,if_neg k4]
 rw [hf,if_pos rfl,hv]
 refine zO Tryz.func80 67<|zq<|zS<|zq<|zB 0<|zP 1 [{}] [.aa [9,8,3,2,1,0] [1]] []<|bn 9 (e.kind == (1:Int)) bE<|zq<|bn 30 (e.kind == (2:Int)) bE<|zP 1 [{}] [.aa [39,30,9,8,3,2,1,0] [1]] []<|bn 39 (e.kind == (3:Int)) bE<|zq<|bn 50 (e.kind == (4:Int)) bE<|zK<|aL<|aq<|zS<|zP 1 [yH [(2,yV (ao (e.target == 0)))]] [.aa [59,50,39,30,9,8,3,2,1,0] [1]] [yI (fv e.target 0)]<|bn 59 (e.target == 0) bE<|a_<|zP 1 [{hs:=[(2,yV (AV.agg (aT (aH e.bZ)))),(5,yV (AV.agg (aT (aH e.target))))],T:=5}] [.aa [3,2,59,50,39,30,9,8,1,0] [66,1]] [yI (gZ e.bZ),yI (gZ e.target)]<|zR (bR)
theorem J2 (k:Int) (h1:1≤k) (h5:k≤5):bL Tryz.prog 82 [ai k] (ai (fB k)):=by
 by_cases k1:k=1
 ·have e:fB k=2:=if_pos (.inl k1)
  refine zO Tryz.func82 9<|zq<|zS<|zq<|zB 0<|zS<|zq<|dB 4 (k == (1:Int)) fg<|a_<|dB 4 (k == (1:Int)) fg<|zq<|zR<|a6<|aI (zV [yJ 2 (↑(fB k):Int) (by rw [e];rfl)])
 by_cases k5:k=5
 ·have e:fB k=2:=if_pos (.inr k5)
  refine zO Tryz.func82 9<|zq<|zS<|zq<|zB 0<|zS<|zq<|bn 4 (k == (1:Int)) bE<|zX {} []<|aq<|dB 4 (k == (5:Int)) fg<|zP 1 [{}] [.aa [2,4,3,0] []] []<|zR<|a6<|aI (zV [yJ 2 (↑(fB k):Int) (by rw [e];rfl)])
 by_cases k4:k=4
 ·have e:fB k=6:=by unfold fB;rw [if_neg aj,if_pos k4]
  refine zO Tryz.func82 9<|zq<|zS<|zq<|zB 0<|zS<|zq<|bn 4 (k == (1:Int)) bE<|zX {} []<|aq<|bn 4 (k == (5:Int)) bE<|zP 1 [{}] [.aa [7,4,3,2,0] []] []<|dB 7 (k == (4:Int)) fg<|zq<|zR<|a6<|aI (zV [yJ 6 (↑(fB k):Int) (by rw [e];rfl)])
 ·have e:fB k=1:=by unfold fB;rw [if_neg aj,if_neg k4]
  refine zO Tryz.func82 9<|zq<|zS<|zq<|zB 0<|zS<|zq<|bn 4 (k == (1:Int)) bE<|zX {} []<|aq<|bn 4 (k == (5:Int)) bE<|zP 1 [{}] [.aa [7,4,3,2,0] []] []<|bn 7 (k == (4:Int)) bE<|zK<|aL<|aq<|bf.jH 1 [{}] bk (s':=AS.mk [(2,ai 1),(7,ao (k == (4:Int))),(4,ao (k == (5:Int))),(3,ai k),(0,ai k)] []) (C:=[]) bk trivial<|zR (zV [yJ 1 (↑(fB k):Int) (by rw [e];rfl)])
theorem oG (b:List UInt8) (hb:b.length≤1000000):bL Tryz.prog 56 [.sl 1 (ag b)] (aw (hash 16 b)):=by
 refine zO Tryz.func56 5<|zP 2 [{},yH [(1,yV (aw (hash (16:Int) b)))]] [.aa [2,0] []] [yI (iy ((16:Int)) b aj)]<|zR (bR)
def JH (x:fH):Prop:=x.kind=3∨x.kind=4∨x.cD= []
theorem K4 (e:eP):∀x∈fS e,JH x:=by
 have hu (n:UInt64):JH (aH n):=.inr (.inr rfl)
 have ha (n:UInt64):JH (bD n):=.inr (.inr rfl)
 have ht (b:List UInt8):JH (cC b):=.inr (.inl rfl)
 have hb (b:List UInt8):JH (dZ b):=.inl rfl
 intro x hx
 unfold fS at hx
 rcases List.mem_append.1 hx with hx|hx
 ·simp only [List.mem_cons,List.not_mem_nil,or_false] at hx
  rcases hx with rfl|rfl|rfl|rfl
  ·exact ha _
  ·exact hu _
  ·exact hu _
  ·exact hu _
 unfold gf ve at hx
 split at hx
 ·simp only [List.mem_cons,List.not_mem_nil,or_false] at hx
  rcases hx with rfl|rfl
  ·exact ht _
  ·exact hb _
 split at hx
 ·obtain rfl:=List.mem_singleton.1 hx;exact ht _
 split at hx
 ·obtain rfl:=List.mem_singleton.1 hx;exact hu _
 split at hx
 ·simp only [List.mem_append,List.mem_cons,List.not_mem_nil,or_false,List.mem_map] at hx
  rcases hx with ((((rfl|rfl|rfl))|(rfl|⟨_,_,rfl⟩))|(rfl|⟨_,_,rfl⟩))|rfl
  ·exact hu _
  ·exact hu _
  ·exact hb _
  ·exact ha _
  ·exact ht _
  ·exact ha _
  ·exact hu _
  ·exact hu _
 ·simp only [List.mem_cons,List.not_mem_nil,or_false] at hx
  rcases hx with rfl|rfl
  ·exact hu _
  ·exact hu _
theorem HT {l:List fH} {i:Nat} (h:i<l.length):List.take 3 (List.drop (i*3) (ae aT l))=aT (l.getD i default):=ku (e:=3) (fun _=>rfl) h
theorem F8 (l:List fH) {i:Nat} (h:i<l.length):gB (l.take i)++i6 (l.getD i default)=gB (l.take (i+1)):=by
 unfold gB
 rw [List.take_add_one,List.flatMap_append,List.getD_eq_getElem?_getD,List.getElem?_eq_getElem h]
 simp
theorem nq (e:eP) (hB:mO e):bL Tryz.prog 40 [.agg (a7 e)] (.bt [.own 1 (ag (fo e)),ai (eu e)]):=by
 by_cases c:eu e=0
 case neg =>
  have hb:fo e= []:=if_neg c
  rw [hb]
  unfold eu
  by_cases k1:1≤e.kind∧e.kind≤5
  case neg =>
   rw [if_pos aj]
   refine zO Tryz.func40 64<|zq<|zS<|zB 0<|zP 1 [yH [(2,yV (ao (decide ((1:Int)≤e.kind∧e.kind≤5))))]] [.aa [9,3,2,1,0] [1]] [yI (bp e.kind ((1:Int)) ((5:Int)))]<|dB 9 (!decide ((1:Int)≤e.kind∧e.kind≤5)) (by simp;omega)<|zq<|zR<|a6<|aI (bR)
  rw [if_neg aj]
  by_cases c1:fi e
  case neg =>
   rw [if_pos c1]
   refine zO Tryz.func40 64<|zq<|zS<|zB 0<|zP 1 [yH [(2,yV (ao (decide ((1:Int)≤e.kind∧e.kind≤5))))]] [.aa [9,3,2,1,0] [1]] [yI (bp e.kind ((1:Int)) ((5:Int)))]<|bn 9 (!decide ((1:Int)≤e.kind∧e.kind≤5)) (by simp_all)<|zP 1 [yH [(1,yV (ao (decide (fi e))))]] [.aa [14,9,3,2,1,0] [1]] [yI (jx e)]<|dB 14 (!decide (fi e)) (by simp_all)<|zq<|zR<|a6<|aI (bR)
  rw [if_neg (fun q=>q c1)]
  by_cases q1:1≤e.aB∧e.aB≤2147483647
  case neg =>
   rw [if_pos aj]
   refine zO Tryz.func40 64<|zq<|zS<|zB 0<|zP 1 [yH [(2,yV (ao (decide ((1:Int)≤e.kind∧e.kind≤5))))]] [.aa [9,3,2,1,0] [1]] [yI (bp e.kind ((1:Int)) ((5:Int)))]<|bn 9 (!decide ((1:Int)≤e.kind∧e.kind≤5)) (by simp_all)<|zP 1 [yH [(1,yV (ao (decide (fi e))))]] [.aa [14,9,3,2,1,0] [1]] [yI (jx e)]<|bn 14 (!decide (fi e)) (by simp_all)<|zP 1 [yH [(2,yV (ao (decide ((1:Int)≤e.aB∧e.aB≤2147483647))))]] [.aa [18,14,9,3,2,1,0] [1]] [yI (bp e.aB ((1:Int)) ((2147483647:Int)))]<|dB 18 (!decide ((1:Int)≤e.aB∧e.aB≤2147483647)) (by simp;omega)<|zq<|zR<|a6<|aI (bR)
  rw [if_neg aj]
  have LX:fa e≠0:=by
   unfold eu at c
   rwa [if_neg aj,if_neg (fun q=>q c1),if_neg aj] at c
  refine zO Tryz.func40 64<|zq<|zS<|zB 0<|zP 1 [yH [(2,yV (ao (decide ((1:Int)≤e.kind∧e.kind≤5))))]] [.aa [9,3,2,1,0] [1]] [yI (bp e.kind ((1:Int)) ((5:Int)))]<|bn 9 (!decide ((1:Int)≤e.kind∧e.kind≤5)) (by simp_all)<|zP 1 [yH [(1,yV (ao (decide (fi e))))]] [.aa [14,9,3,2,1,0] [1]] [yI (jx e)]<|bn 14 (!decide (fi e)) (by simp_all)<|zP 1 [yH [(2,yV (ao (decide ((1:Int)≤e.aB∧e.aB≤2147483647))))]] [.aa [18,14,9,3,2,1,0] [1]] [yI (bp e.aB ((1:Int)) ((2147483647:Int)))]<|bn 18 (!decide ((1:Int)≤e.aB∧e.aB≤2147483647)) (by simp_all)<|zK<|aL<|aq<|zP 1 [yH [(1,{av:=some (AV.bt [AV.own 3 (ae aT (Ll e)),ai (fa e)]),b:=false})]] [.aa [5,4,18,14,9,3,2,1,0] [1025,1]] [yI (sk e aj aj hB)]<|zS<|zQ 1 [yH [(1,yV (ao true))]] [yB (ao (fa e != (0:Int))=ao true) (by simp [LX])]<|zT 29<|zP 1 [{}] [.aa [3,2,29,5,4,18,14,9,1,0] [1025,1]] []<|dn (bR)
 have hb:fo e=gB (fS e):=if_pos c
 rw [hb,c]
 obtain ⟨v1,v2,v3,v4,v5,v6,v7⟩:=yz c
 unfold eu at c
 by_cases k1:1≤e.kind∧e.kind≤5
 case neg=>rw [if_pos aj] at c;omega
 rw [if_neg aj] at c
 by_cases c1:fi e
 case neg=>rw [if_pos c1] at c;omega
 rw [if_neg (fun q=>q c1)] at c
 by_cases q1:1≤e.aB∧e.aB≤2147483647
 case neg=>rw [if_pos aj] at c;omega
 rw [if_neg aj] at c
 have hf:=sk e k1.1 k1.2 hB
 rw [c,Nz c] at hf
 have ht:=DI e.kind
 have hv:(ae aT (gf e)).length≤90:=by
  have:(fS e).length=4+(gf e).length:=by unfold fS;rw [List.length_append];rfl
  rw [aG (e:=3) (fun _=>rfl)];omega
 have w1:IntKind.i64.wrap (3+(fB e.kind:Int))=3+(fB e.kind:Int):=by rw [IntKind.wrap_i64];omega
 have s1:ae aT [bD (u64 (3+fB e.kind)),aH (u64 e.aB),aH e.prev,aH (u64 e.kind)]++ae aT (gf e)=ae aT (fS e):=fE _ _
 have SL:∀i,i<(fS e).length->eO ((fS e).getD i default).kind∧((fS e).getD i default).cD.length≤10000:=fun i hi=>by
  rw [List.getD_eq_getElem?_getD,List.getElem?_eq_getElem hi]
  exact v6 _ (List.getElem_mem hi)
 have UR:∀i,i<(fS e).length->((fS e).getD i default).kind=3∨((fS e).getD i default).kind=4∨((fS e).getD i default).cD= []:=fun i hi=>by
  rw [List.getD_eq_getElem?_getD,List.getElem?_eq_getElem hi]
  exact K4 e _ (List.getElem_mem hi)
 have hlen:∀i,(gB ((fS e).take i)).length≤300270:=fun i=>ql (n:=30) (fun x hx=>(v6 x (List.mem_of_mem_take hx)).2) (by rw [List.length_take];omega)
 clear v1 v2 v3 v4 v6 v7 hb
 refine zO Tryz.func40 64<|zq<|zS<|zB 0<|zP 1 [yH [(2,yV (ao (decide ((1:Int)≤e.kind∧e.kind≤5))))]] [.aa [9,3,2,1,0] [1]] [yI (bp e.kind ((1:Int)) ((5:Int)))]<|bn 9 (!decide ((1:Int)≤e.kind∧e.kind≤5)) (by simp_all)<|zP 1 [yH [(1,yV (ao (decide (fi e))))]] [.aa [14,9,3,2,1,0] [1]] [yI (jx e)]<|bn 14 (!decide (fi e)) (by simp_all)<|zP 1 [yH [(2,yV (ao (decide ((1:Int)≤e.aB∧e.aB≤2147483647))))]] [.aa [18,14,9,3,2,1,0] [1]] [yI (bp e.aB ((1:Int)) ((2147483647:Int)))]<|bn 18 (!decide ((1:Int)≤e.aB∧e.aB≤2147483647)) (by simp_all)<|zK<|aL<|aq<|zP 1 [yH [(1,{av:=some (AV.bt [AV.own 3 (ae aT (gf e)),ai 0]),b:=false})]] [.aa [5,4,18,14,9,3,2,1,0] [1025,1]] [yI hf]<|zS<|zq<|zF 29<|a_<|zS<|Ql 18 [16] [(2,yV (ai (↑(fB e.kind):Int))),(3,yV (ai ((3:Int)+(↑(fB e.kind):Int)))),(4,yV (AV.agg [ai ((bD (u64 ((3:Int)+(↑(fB e.kind):Int)))).kind),aw ((bD (u64 ((3:Int)+(↑(fB e.kind):Int)))).num),AV.val (Value.string (ByteArray.mk (bD (u64 ((3:Int)+(↑(fB e.kind):Int)))).cD.toArray))])),(7,yV (aw (u64 e.aB))),(8,yV (AV.agg (aT (aH (u64 e.aB))))),(11,yV (AV.agg (aT (aH e.prev)))),(14,yV (aw (u64 e.kind))),(15,yV (AV.agg (aT (aH (u64 e.kind))))),(18,{av:=some (AV.arr (ae aT (fS e))),b:=false}),(19,yV (AV.ref 49))] [yI (J2 e.kind aj aj),yN ((3:Int)+(↑(fB e.kind):Int)),yI (tX ((3:Int)+(↑(fB e.kind):Int))),yI (aY e.aB),yI (gZ (u64 e.aB)),yI (gZ e.prev),yI (aY e.kind),yI (gZ (u64 e.kind)),yB (ll ([ai ((bD (u64 ((3:Int)+(↑(fB e.kind):Int)))).kind),aw ((bD (u64 ((3:Int)+(↑(fB e.kind):Int)))).num),AV.val (Value.string (ByteArray.mk (bD (u64 ((3:Int)+(↑(fB e.kind):Int)))).cD.toArray))]++((aT (aH (u64 e.aB)))++((aT (aH e.prev))++((aT (aH (u64 e.kind)))++ []))))) (DH rfl),yR (ae aT (fS e)),yB (cI (ae aT (gf e))) (dG wy _),yO ((12+(ae aT (gf e)).length)*32≤422212465065984),yR (AV.ref 49)]<|aq<|bf.sU [.aa [6,29,5,4,18,14,9,3,2,1,0] [49,1025,1]] bk<|zq<|zS<|bf.jH 1 [{}] bk (s':=AS.mk [(8,ai 0),(7,AV.nil),(6,AV.ref 49),(29,ao ((0:Int) != (0:Int))),(5,ai 0),(4,AV.ref 1025),(18,ao (!decide ((1:Int)≤e.aB∧e.aB≤2147483647))),(14,ao (!decide (fi e))),(9,ao (!decide ((1:Int)≤e.kind∧e.kind≤5))),(3,ai 0),(2,AV.nil),(1,AV.addr 1 0),(0,AV.agg (a7 e))] [(49,Row.mk 3 true false (ae aT (fS e))),(1025,Row.mk 3 true false (ae aT (gf e))),(1,Row.mk 1 false true (List.map (aE 49) (cP 47 (Row.mk 1 false true (List.map (aE 1025) (List.map (aE 1) (a7 e))))).cells))]) (C:=[]) bk trivial<|zB 1 ?_
 have MY:(ae aT (fS e)).length=(fS e).length*3:=aG (e:=3) (fun _=>rfl) ..
 generalize fS e=A at *
 refine zL (fun (i:Nat)=>(⟨[(6,AV.ref 49),(29,ao ((0:Int) != (0:Int))),(5,ai 0),(4,AV.ref 1025),(18,ao (!decide ((1:Int)≤e.aB∧e.aB≤2147483647))),(14,ao (!decide (fi e))),(9,ao (!decide ((1:Int)≤e.kind∧e.kind≤5))),(3,ai 0),(2,AV.nil),(1,AV.addr 1 0),(0,AV.agg (a7 e)),(8,ai i),(7,AV.ref 7)],[(49,⟨3,true,false,ae aT A⟩),(1025,⟨3,true,false,ae aT (gf e)⟩),(7,⟨1,true,false,ag (gB (A.take i))⟩),(1,⟨1,false,true,a7 e⟩)]⟩:AS)) (fun i=>(i≤A.length)) (fun i=>(A.length-i)) (0) ?_ (zW [.nil 7 7 1,.aa [6,29,5,4,18,14,9,3,2,1,0,8,7] [49,1025,7,1]]) ?_
 ·omega
 intro i hi
 refine zS<|zP 1 [yH [(2,{k:=A.length})]] [.aa [53,6,29,5,4,18,14,9,3,2,1,0,8,7] [49,1025,7,1]] [yI MY] (zD 53 ((↑i:Int)<(↑A.length:Int)) (fun g=>?_) (fun g=>?_))
 ·have dM:i<A.length:=aj
  have gN:=HT dM
  have hs:=SL i dM
  have hx:=xp _ hs.1 aj (UR i dM)
  have uG:=hlen i
  have pD:=Bc (A.getD i default)
  have es:=F8 A dM
  refine a_<|zS<|zB 2<|zX (yH [(3,{k:=i}),(4,yV (AV.agg (aT (A.getD i default)))),(5,yV (cF (i6 (A.getD i default)))),(6,{av:=some (AV.arr (ag (gB (List.take i A)++(i6 (A.getD i default)).toArray.toList))),b:=false})]) [yR (↑i:Int),yO (i*3<(ae aT A).length),yB (List.take 3 (List.drop (i*3) (ae aT A))=(aT (A.getD i default))) (dr (f:=aT) (e:=3) (k:=i) (j:=0) (fun _=>rfl) aj (by decide) rfl),yR 3,yI hx,yB (ag (gB (List.take i A))++ag (i6 (A.getD i default)).toArray.toList=ag (gB (List.take i A)++(i6 (A.getD i default)).toArray.toList)) (da _ _),yB (cI (ag (i6 (A.getD i default)).toArray.toList)) (fQ _),yB (((ag (gB (List.take i A))).length+(ag (i6 (A.getD i default)).toArray.toList).length)*1≤140737488355328) (by simp only [aA];omega)]<|aL<|aq<|zX (yH [(1,yV (ai ((↑i:Int)+1)))]) [yN ((↑i:Int)+1)] (aK (i+1) (by assumption) aj (eQ [.vp 62 7,.aa [6,29,5,4,18,14,9,3,2,1,0,8,7] [49,1025,7,1]] [] [7] [yB (ag (gB (List.take i A)++(i6 (A.getD i default)).toArray.toList)=ag (gB (List.take (i+1) A))) (by rw [←es])]))
 ·have ei:i=A.length:=aj
  subst ei
  refine zE 1<|ba<|aS<|br<|aq<|zq<|zR (zV [yB (ag (gB (List.take A.length A))=ag (gB A)) (by rw [List.take_length]),yR (Value.int .i64 0)])
end Go.Proofs.YtjgbhhnghedgdaaGreatDoor
