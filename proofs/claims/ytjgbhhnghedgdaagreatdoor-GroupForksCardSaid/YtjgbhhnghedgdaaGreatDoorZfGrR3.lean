import Derived.Test.YtjgbhhnghedgdaaGreatDoorZfGrR1
import Derived.Test.YtjgbhhnghedgdaaGreatDoorZfGrR5
set_option linter.all false
namespace Go.Proofs.YtjgbhhnghedgdaaGreatDoor
open Go.RowKit
set_option maxRecDepth 100000
set_option maxHeartbeats 4000000
def isVal:AV->Bool
 | .val _=>true
 | _=>false
theorem E7 {l:List AV} (h:l.all isVal=true):lM l:=fun x hx=>by
 have:=List.all_eq_true.1 h x hx
 cases x<;>first|exact ⟨_,rfl⟩|cases this
def NG (e:dj):List fP:=if e.kind=1 then (if eg e.name≠0 then [] else [cL e.name,fj (dP e.kh e.kr)]) else if e.kind=2 then [cL e.name] else if ft e=0 then gv e else []
theorem Pt {e:dj} (h:ft e=0):NG e=gv e:=by
 unfold NG
 rw [show gv e=if e.kind=1 then [cL e.name,fj (dP e.kh e.kr)] else if e.kind=2 then [cL e.name] else gv e by unfold gv;by_cases k1:e.kind=1;simp [k1];by_cases k2:e.kind=2;simp [k2];simp [k1,k2]]
 by_cases k1:e.kind=1
 ·have:eg e.name=0:=by
   unfold ft at h
   rw [if_pos k1] at h
   apply Classical.byContradiction;intro q;rw [if_pos q] at h;exact q h
  rw [if_pos k1,if_pos k1,if_neg ag]
 rw [if_neg k1,if_neg k1]
 by_cases k2:e.kind=2
 ·rw [if_pos k2,if_pos k2]
 rw [if_neg k2,if_neg k2,if_pos h]
theorem ov (e:dj) (h1:1≤e.kind) (h5:e.kind≤5) (hB:l8 e):bA Tryz.prog 80 [.agg (aG e)] (.b_ [.own 3 (ae bn (NG e)),ai (ft e)]):=by
 obtain ⟨hn,hd⟩:=hB
 have hz:=rH e.name hn
 by_cases k1:e.kind=1
 ·have hf:ft e=if eg e.name≠0 then eg e.name else gG e.kh:=if_pos k1
  have hc:NG e=if eg e.name≠0 then [] else [cL e.name,fj (dP e.kh e.kr)]:=if_pos k1
  by_cases c1:eg e.name=0
  case neg =>
   rw [if_pos c1] at hf hc
   rw [hc,hf]
   refine zO Tryz.func80 67<|zq<|zS<|zq<|zB 0<|zP 1 [{}] [.aa [9,8,3,2,1,0] [1]] []<|du 9 (e.kind == (1:Int)) fh<|zS<|zP 2 [yH [(2,yV (ai (eg e.name)))],yH [(1,yV (ao true))]] [.aa [15,4,9,8,3,2,1,0] [1]] [yI (fR e.name hn),yB (ao (eg e.name != (0:Int))=ao true) (by simp [c1])]<|zT 15<|zq<|dk<|ba<|aI (bL)
  rw [if_neg ag] at hf hc
  have gV:=nZ e.kh e.kr
  rw [hc,hf]
  refine zO Tryz.func80 67<|zq<|zS<|zq<|zB 0<|zP 1 [{}] [.aa [9,8,3,2,1,0] [1]] []<|du 9 (e.kind == (1:Int)) fh<|zS<|zP 2 [yH [(2,yV (ai (eg e.name)))],yH [(1,yV (ao false))]] [.aa [15,4,9,8,3,2,1,0] [1]] [yI (fR e.name hn),yB (ao (eg e.name != (0:Int))=ao false) (by simp [c1])]<|zF 15<|a6<|zP 2 [yH [(2,yC (dq (e.kh) (e.kr)))],yH [(2,yC (kD (e.name))),(4,yC (oG (dP e.kh e.kr) ag))]] [.aa [3,2,6,5,15,4,9,8,1,0] [28,1020,1]] [yI (dq e.kh e.kr),yI (aQ (dP e.kh e.kr)),yI (kD e.name),yI (oG (dP e.kh e.kr) ag)]<|zR<|ba<|aI (bL)
 by_cases k2:e.kind=2
 ·have hf:ft e=eg e.name:=by unfold ft;rw [if_neg k1,if_pos k2]
  have hc:NG e= [cL e.name]:=by unfold NG;rw [if_neg k1,if_pos k2]
  rw [hf,hc]
  refine zO Tryz.func80 67<|zq<|zS<|zq<|zB 0<|zP 1 [{}] [.aa [9,8,3,2,1,0] [1]] []<|bj 9 (e.kind == (1:Int)) bx<|zq<|du 30 (e.kind == (2:Int)) fh<|zS<|R8 7 [3] [(2,yC (kD (e.name))),(3,yV (AV.own 3 (ae bn [cL e.name]))),(6,yV (ai (eg e.name)))] [yI (kD e.name),yB (lM ((bn (cL e.name))++ [])) (E7 rfl),yI (fR e.name hn)]<|al<|bf.tD [.aa [3,2,30,9,8,1,0] [35,1]] bC<|zR<|ba<|aI (bL)
 have hc:NG e=if ft e=0 then gv e else []:=by unfold NG;rw [if_neg k1,if_neg k2]
 rw [hc]
 by_cases k3:e.kind=3
 ·have hf:ft e=if e.bm<1∨8<e.bm then 9 else 0:=by unfold ft;rw [if_neg k1,if_neg k2,if_pos k3]
  by_cases c1:1≤e.bm∧e.bm≤8
  ·rw [if_neg ag] at hf
   have hv:gv e= [aL (u64 e.bm)]:=by unfold gv;rw [if_neg k1,if_neg k2,if_pos k3]
   rw [hf,if_pos rfl,hv]
   refine zO Tryz.func80 67<|zq<|zS<|zq<|zB 0<|zP 1 [{}] [.aa [9,8,3,2,1,0] [1]] []<|bj 9 (e.kind == (1:Int)) bx<|zq<|bj 30 (e.kind == (2:Int)) bx<|zP 1 [{}] [.aa [39,30,9,8,3,2,1,0] [1]] []<|du 39 (e.kind == (3:Int)) fh<|zS<|zP 1 [yH [(2,yC (aM (e.bm) ((1:Int)) ((8:Int))))]] [.aa [44,39,30,9,8,3,2,1,0] [1]] [yI (aM e.bm ((1:Int)) ((8:Int)))]<|bj 44 (!decide ((1:Int)≤e.bm∧e.bm≤8)) (by simp_all)<|a6<|zP 1 [yH [(2,yV (aw (u64 e.bm))),(3,yC (dp (u64 e.bm)))]] [.aa [3,2,44,39,30,9,8,1,0] [49,1]] [yI (a8 e.bm),yI (dp (u64 e.bm))]<|zR<|ba<|aI (bL)
  ·rw [if_pos ag] at hf
   rw [hf,if_neg ag]
   refine zO Tryz.func80 67<|zq<|zS<|zq<|zB 0<|zP 1 [{}] [.aa [9,8,3,2,1,0] [1]] []<|bj 9 (e.kind == (1:Int)) bx<|zq<|bj 30 (e.kind == (2:Int)) bx<|zP 1 [{}] [.aa [39,30,9,8,3,2,1,0] [1]] []<|du 39 (e.kind == (3:Int)) fh<|zS<|zP 1 [yH [(2,yC (aM (e.bm) ((1:Int)) ((8:Int))))]] [.aa [44,39,30,9,8,3,2,1,0] [1]] [yI (aM e.bm ((1:Int)) ((8:Int)))]<|du 44 (!decide ((1:Int)≤e.bm∧e.bm≤8)) (by simp;omega)<|zq<|dk<|ba<|aI (bL)
 by_cases k4:e.kind=4
 ·have hf:ft e=fZ e.dep:=by unfold ft;rw [if_neg k1,if_neg k2,if_neg k3,if_pos k4]
  have hv:gv e=wC e.dep:=by unfold gv;rw [if_neg k1,if_neg k2,if_neg k3,if_pos k4]
  rw [hf,hv]
  have Hc:=Dq e.dep hd
  generalize (if fZ e.dep=0 then wC e.dep else [])=V at *
  generalize fZ e.dep=E at *
  refine zO Tryz.func80 67<|zq<|zS<|zq<|zB 0<|zP 1 [{}] [.aa [9,8,3,2,1,0] [1]] []<|bj 9 (e.kind == (1:Int)) bx<|zq<|bj 30 (e.kind == (2:Int)) bx<|zP 1 [{}] [.aa [39,30,9,8,3,2,1,0] [1]] []<|bj 39 (e.kind == (3:Int)) bx<|zq<|du 50 (e.kind == (4:Int)) fh<|zP 1 [yH [(2,yD Hc)]] [.aa [3,2,50,39,30,9,8,1,0] [1054,1]] [yI Hc]<|zR<|ba<|aI (bL)
 have hf:ft e=if e.target=0 then 9 else 0:=by unfold ft;rw [if_neg k1,if_neg k2,if_neg k3,if_neg k4]
 by_cases c1:e.target=0
 ·rw [if_pos c1] at hf
  rw [hf,if_neg ag]
  refine zO Tryz.func80 67<|zq<|zS<|zq<|zB 0<|zP 1 [{}] [.aa [9,8,3,2,1,0] [1]] []<|bj 9 (e.kind == (1:Int)) bx<|zq<|bj 30 (e.kind == (2:Int)) bx<|zP 1 [{}] [.aa [39,30,9,8,3,2,1,0] [1]] []<|bj 39 (e.kind == (3:Int)) bx<|zq<|bj 50 (e.kind == (4:Int)) bx<|zK<|aK<|al<|zS<|zP 1 [yH [(2,yV (ao (e.target == 0)))]] [.aa [59,50,39,30,9,8,3,2,1,0] [1]] [yI (fK e.target 0)]<|du 59 (e.target == 0) fh<|zq<|dk (bL)
 rw [if_neg c1] at hf
 have hv:gv e= [aL e.cm,aL e.target]:=by unfold gv;rw [if_neg k1,if_neg k2,if_neg k3,if_neg k4]
 rw [hf,if_pos rfl,hv]
 refine zO Tryz.func80 67<|zq<|zS<|zq<|zB 0<|zP 1 [{}] [.aa [9,8,3,2,1,0] [1]] []<|bj 9 (e.kind == (1:Int)) bx<|zq<|bj 30 (e.kind == (2:Int)) bx<|zP 1 [{}] [.aa [39,30,9,8,3,2,1,0] [1]] []<|bj 39 (e.kind == (3:Int)) bx<|zq<|bj 50 (e.kind == (4:Int)) bx<|zK<|aK<|al<|zS<|zP 1 [yH [(2,yV (ao (e.target == 0)))]] [.aa [59,50,39,30,9,8,3,2,1,0] [1]] [yI (fK e.target 0)]<|bj 59 (e.target == 0) bx<|a6<|zP 1 [{hs:=[(2,yC (dp (e.cm))),(5,yC (dp (e.target)))],T:=5}] [.aa [3,2,59,50,39,30,9,8,1,0] [66,1]] [yI (dp e.cm),yI (dp e.target)]<|zR (bL)
theorem Lw (k:Int) (h1:1≤k) (h5:k≤5):bA Tryz.prog 82 [ai k] (ai (fV k)):=by
 by_cases k1:k=1
 ·have e:fV k=2:=if_pos (.inl k1)
  refine zO Tryz.func82 9<|zq<|zS<|zq<|zB 0<|zS<|zq<|du 4 (k == (1:Int)) fh<|a6<|du 4 (k == (1:Int)) fh<|zq<|zR<|ba<|aI (zV [yJ 2 (↑(fV k):Int) (by rw [e];rfl)])
 by_cases k5:k=5
 ·have e:fV k=2:=if_pos (.inr k5)
  refine zO Tryz.func82 9<|zq<|zS<|zq<|zB 0<|zS<|zq<|bj 4 (k == (1:Int)) bx<|zX {} []<|al<|du 4 (k == (5:Int)) fh<|zP 1 [{}] [.aa [2,4,3,0] []] []<|zR<|ba<|aI (zV [yJ 2 (↑(fV k):Int) (by rw [e];rfl)])
 by_cases k4:k=4
 ·have e:fV k=6:=by unfold fV;rw [if_neg ag,if_pos k4]
  refine zO Tryz.func82 9<|zq<|zS<|zq<|zB 0<|zS<|zq<|bj 4 (k == (1:Int)) bx<|zX {} []<|al<|bj 4 (k == (5:Int)) bx<|zP 1 [{}] [.aa [7,4,3,2,0] []] []<|du 7 (k == (4:Int)) fh<|zq<|zR<|ba<|aI (zV [yJ 6 (↑(fV k):Int) (by rw [e];rfl)])
 ·have e:fV k=1:=by unfold fV;rw [if_neg ag,if_neg k4]
  refine zO Tryz.func82 9<|zq<|zS<|zq<|zB 0<|zS<|zq<|bj 4 (k == (1:Int)) bx<|zX {} []<|al<|bj 4 (k == (5:Int)) bx<|zP 1 [{}] [.aa [7,4,3,2,0] []] []<|bj 7 (k == (4:Int)) bx<|zK<|aK<|al<|zq<|zR (zV [yJ 1 (↑(fV k):Int) (by rw [e];rfl)])
theorem lS (b:List UInt8) (hb:b.length≤1000000):bA Tryz.prog 56 [.sl 1 (ah b)] (aw (hash 16 b)):=by
 refine zO Tryz.func56 5<|zP 2 [{},yH [(1,yV (aw (hash (16:Int) b)))]] [.aa [2,0] []] [yI (iN ((16:Int)) b ag)]<|zR (bL)
def La (x:fP):Prop:=x.kind=3∨x.kind=4∨x.cJ= []
theorem Mz (e:dj):∀x∈fY e,La x:=by
 have hu (n:UInt64):La (aL n):=.inr (.inr rfl)
 have ha (n:UInt64):La (bG n):=.inr (.inr rfl)
 have ht (b:List UInt8):La (cL b):=.inr (.inl rfl)
 have hb (b:List UInt8):La (fj b):=.inl rfl
 intro x hx
 unfold fY at hx
 rcases List.mem_append.1 hx with hx|hx
 ·simp only [List.mem_cons,List.not_mem_nil,or_false] at hx
  rcases hx with rfl|rfl|rfl|rfl
  ·exact ha _
  ·exact hu _
  ·exact hu _
  ·exact hu _
 unfold gv wC at hx
 split at hx
 ·simp only [List.mem_cons,List.not_mem_nil,or_false] at hx
  rcases hx with rfl|rfl
  ·exact ht _
  ·exact hb _
 split at hx
 ·obtain rfl:=List.mem_singleton.1 hx;exact ht _
 split at hx
 ·obtain rfl:=List.mem_singleton.1 hx;exact hu _
 split at hx
 ·simp only [List.mem_append,List.mem_cons,List.not_mem_nil,or_false,List.mem_map] at hx
  rcases hx with ((((rfl|rfl|rfl))|(rfl|⟨_,_,rfl⟩))|(rfl|⟨_,_,rfl⟩))|rfl
  ·exact hu _
  ·exact hu _
  ·exact hb _
  ·exact ha _
  ·exact ht _
  ·exact ha _
  ·exact hu _
  ·exact hu _
 ·simp only [List.mem_cons,List.not_mem_nil,or_false] at hx
  rcases hx with rfl|rfl
  ·exact hu _
  ·exact hu _
theorem Jo {l:List fP} {i:Nat} (h:i<l.length):List.take 3 (List.drop (i*3) (ae bn l))=bn (l.getD i default):=jz (e:=3) (fun _=>rfl) h
theorem HC (l:List fP) {i:Nat} (h:i<l.length):g_ (l.take i)++gS (l.getD i default)=g_ (l.take (i+1)):=by
 unfold g_
 rw [List.take_add_one,List.flatMap_append,List.getD_eq_getElem?_getD,List.getElem?_eq_getElem h]
 simp
theorem nS (e:dj) (hB:l8 e):bA Tryz.prog 40 [.agg (aG e)] (.b_ [.own 1 (ah (dM e)),ai (eO e)]):=by
 by_cases c:eO e=0
 case neg =>
  have hb:dM e= []:=if_neg c
  rw [hb]
  unfold eO
  by_cases k1:1≤e.kind∧e.kind≤5
  case neg =>
   rw [if_pos ag]
   refine zO Tryz.func40 64<|zq<|zS<|zB 0<|zP 1 [yH [(2,yC (aM (e.kind) ((1:Int)) ((5:Int))))]] [.aa [9,3,2,1,0] [1]] [yI (aM e.kind ((1:Int)) ((5:Int)))]<|du 9 (!decide ((1:Int)≤e.kind∧e.kind≤5)) (by simp;omega)<|zq<|zR<|ba<|aI (bL)
  rw [if_neg ag]
  by_cases c1:fW e
  case neg =>
   rw [if_pos c1]
   refine zO Tryz.func40 64<|zq<|zS<|zB 0<|zP 1 [yH [(2,yC (aM (e.kind) ((1:Int)) ((5:Int))))]] [.aa [9,3,2,1,0] [1]] [yI (aM e.kind ((1:Int)) ((5:Int)))]<|bj 9 (!decide ((1:Int)≤e.kind∧e.kind≤5)) (by simp_all)<|zP 1 [yH [(1,yC (eJ (e)))]] [.aa [14,9,3,2,1,0] [1]] [yI (eJ e)]<|du 14 (!decide (fW e)) (by simp_all)<|zq<|zR<|ba<|aI (bL)
  rw [if_neg (fun q=>q c1)]
  by_cases q1:1≤e.aC∧e.aC≤2147483647
  case neg =>
   rw [if_pos ag]
   refine zO Tryz.func40 64<|zq<|zS<|zB 0<|zP 1 [yH [(2,yC (aM (e.kind) ((1:Int)) ((5:Int))))]] [.aa [9,3,2,1,0] [1]] [yI (aM e.kind ((1:Int)) ((5:Int)))]<|bj 9 (!decide ((1:Int)≤e.kind∧e.kind≤5)) (by simp_all)<|zP 1 [yH [(1,yC (eJ (e)))]] [.aa [14,9,3,2,1,0] [1]] [yI (eJ e)]<|bj 14 (!decide (fW e)) (by simp_all)<|zP 1 [yH [(2,yC (aM (e.aC) ((1:Int)) ((2147483647:Int))))]] [.aa [18,14,9,3,2,1,0] [1]] [yI (aM e.aC ((1:Int)) ((2147483647:Int)))]<|du 18 (!decide ((1:Int)≤e.aC∧e.aC≤2147483647)) (by simp;omega)<|zq<|zR<|ba<|aI (bL)
  rw [if_neg ag]
  have Nx:ft e≠0:=by
   unfold eO at c
   rwa [if_neg ag,if_neg (fun q=>q c1),if_neg ag] at c
  refine zO Tryz.func40 64<|zq<|zS<|zB 0<|zP 1 [yH [(2,yC (aM (e.kind) ((1:Int)) ((5:Int))))]] [.aa [9,3,2,1,0] [1]] [yI (aM e.kind ((1:Int)) ((5:Int)))]<|bj 9 (!decide ((1:Int)≤e.kind∧e.kind≤5)) (by simp_all)<|zP 1 [yH [(1,yC (eJ (e)))]] [.aa [14,9,3,2,1,0] [1]] [yI (eJ e)]<|bj 14 (!decide (fW e)) (by simp_all)<|zP 1 [yH [(2,yC (aM (e.aC) ((1:Int)) ((2147483647:Int))))]] [.aa [18,14,9,3,2,1,0] [1]] [yI (aM e.aC ((1:Int)) ((2147483647:Int)))]<|bj 18 (!decide ((1:Int)≤e.aC∧e.aC≤2147483647)) (by simp_all)<|zK<|aK<|al<|zP 1 [yH [(1,yD (ov (e) ag ag hB))]] [.aa [5,4,18,14,9,3,2,1,0] [1025,1]] [yI (ov e ag ag hB)]<|zS<|zQ 1 [yH [(1,yV (ao true))]] [yB (ao (ft e != (0:Int))=ao true) (by simp [Nx])]<|zT 29<|zP 1 [{}] [.aa [3,2,29,5,4,18,14,9,1,0] [1025,1]] []<|dk (bL)
 have hb:dM e=g_ (fY e):=if_pos c
 rw [hb,c]
 obtain ⟨v1,v2,v3,v4,v5,v6,v7⟩:=Az c
 unfold eO at c
 by_cases k1:1≤e.kind∧e.kind≤5
 case neg=>rw [if_pos ag] at c;omega
 rw [if_neg ag] at c
 by_cases c1:fW e
 case neg=>rw [if_pos c1] at c;omega
 rw [if_neg (fun q=>q c1)] at c
 by_cases q1:1≤e.aC∧e.aC≤2147483647
 case neg=>rw [if_pos ag] at c;omega
 rw [if_neg ag] at c
 have hf:=ov e k1.1 k1.2 hB
 rw [c,Pt c] at hf
 have ht:=E_ e.kind
 have hv:(ae bn (gv e)).length≤90:=by
  have:(fY e).length=4+(gv e).length:=by unfold fY;rw [List.length_append];rfl
  rw [aA (e:=3) (fun _=>rfl)];omega
 have w1:IntKind.i64.wrap (3+(fV e.kind:Int))=3+(fV e.kind:Int):=by rw [IntKind.wrap_i64];omega
 have s1:ae bn [bG (u64 (3+fV e.kind)),aL (u64 e.aC),aL e.prev,aL (u64 e.kind)]++ae bn (gv e)=ae bn (fY e):=fT _ _
 have UG:∀i,i<(fY e).length->fg ((fY e).getD i default).kind∧((fY e).getD i default).cJ.length≤10000:=fun i hi=>by
  rw [List.getD_eq_getElem?_getD,List.getElem?_eq_getElem hi]
  exact v6 _ (List.getElem_mem hi)
 have WJ:∀i,i<(fY e).length->((fY e).getD i default).kind=3∨((fY e).getD i default).kind=4∨((fY e).getD i default).cJ= []:=fun i hi=>by
  rw [List.getD_eq_getElem?_getD,List.getElem?_eq_getElem hi]
  exact Mz e _ (List.getElem_mem hi)
 have hlen:∀i,(g_ ((fY e).take i)).length≤300270:=fun i=>q6 (n:=30) (fun x hx=>(v6 x (List.mem_of_mem_take hx)).2) (by rw [List.length_take];omega)
 clear v1 v2 v3 v4 v6 v7 hb
 refine zO Tryz.func40 64<|zq<|zS<|zB 0<|zP 1 [yH [(2,yC (aM (e.kind) ((1:Int)) ((5:Int))))]] [.aa [9,3,2,1,0] [1]] [yI (aM e.kind ((1:Int)) ((5:Int)))]<|bj 9 (!decide ((1:Int)≤e.kind∧e.kind≤5)) (by simp_all)<|zP 1 [yH [(1,yC (eJ (e)))]] [.aa [14,9,3,2,1,0] [1]] [yI (eJ e)]<|bj 14 (!decide (fW e)) (by simp_all)<|zP 1 [yH [(2,yC (aM (e.aC) ((1:Int)) ((2147483647:Int))))]] [.aa [18,14,9,3,2,1,0] [1]] [yI (aM e.aC ((1:Int)) ((2147483647:Int)))]<|bj 18 (!decide ((1:Int)≤e.aC∧e.aC≤2147483647)) (by simp_all)<|zK<|aK<|al<|zP 1 [yH [(1,yD hf)]] [.aa [5,4,18,14,9,3,2,1,0] [1025,1]] [yI hf]<|zS<|zq<|zF 29<|a6<|zS<|R8 18 [16] [(2,yV (ai (↑(fV e.kind):Int))),(3,yV (ai ((3:Int)+(↑(fV e.kind):Int)))),(4,yC (mh ((3:Int)+(↑(fV e.kind):Int)))),(7,yV (aw (u64 e.aC))),(8,yC (dp (u64 e.aC))),(11,yC (dp (e.prev))),(14,yV (aw (u64 e.kind))),(15,yC (dp (u64 e.kind))),(18,{av:=some (AV.arr (ae bn (fY e))),b:=false}),(19,yV (AV.ref 49))] [yI (Lw e.kind ag ag),yN ((3:Int)+(↑(fV e.kind):Int)),yI (mh ((3:Int)+(↑(fV e.kind):Int))),yI (a8 e.aC),yI (dp (u64 e.aC)),yI (dp e.prev),yI (a8 e.kind),yI (dp (u64 e.kind)),yB (lM ([ai ((bG (u64 ((3:Int)+(↑(fV e.kind):Int)))).kind),aw ((bG (u64 ((3:Int)+(↑(fV e.kind):Int)))).num),AV.val (Value.string (ByteArray.mk (bG (u64 ((3:Int)+(↑(fV e.kind):Int)))).cJ.toArray))]++((bn (aL (u64 e.aC)))++((bn (aL e.prev))++((bn (aL (u64 e.kind)))++ []))))) (E7 rfl),yR (ae bn (fY e)),yB (cC (ae bn (gv e))) (dJ xM _),yO ((12+(ae bn (gv e)).length)*32≤422212465065984),yR (AV.ref 49)]<|al<|bf.tD [.aa [6,29,5,4,18,14,9,3,2,1,0] [49,1025,1]] bC<|zq<|zS<|bf.nQ 1 [{}] bC (s':=AS.mk [(8,ai 0),(7,AV.nil),(6,AV.ref 49),(29,ao ((0:Int) != (0:Int))),(5,ai 0),(4,AV.ref 1025),(18,ao (!decide ((1:Int)≤e.aC∧e.aC≤2147483647))),(14,ao (!decide (fW e))),(9,ao (!decide ((1:Int)≤e.kind∧e.kind≤5))),(3,ai 0),(2,AV.nil),(1,AV.addr 1 0),(0,AV.agg (aG e))] [(49,Row.mk 3 true false (ae bn (fY e))),(1025,Row.mk 3 true false (ae bn (gv e))),(1,Row.mk 1 false true (List.map (aH 49) (cF 47 (Row.mk 1 false true (List.map (aH 1025) (List.map (aH 1) (aG e))))).cells))]) (C:=[]) bC trivial<|zB 1 ?_
 have OS:(ae bn (fY e)).length=(fY e).length*3:=aA (e:=3) (fun _=>rfl) ..
 generalize fY e=A at *
 refine zL (fun (i:Nat)=>(⟨[(6,AV.ref 49),(29,ao ((0:Int) != (0:Int))),(5,ai 0),(4,AV.ref 1025),(18,ao (!decide ((1:Int)≤e.aC∧e.aC≤2147483647))),(14,ao (!decide (fW e))),(9,ao (!decide ((1:Int)≤e.kind∧e.kind≤5))),(3,ai 0),(2,AV.nil),(1,AV.addr 1 0),(0,AV.agg (aG e)),(8,ai i),(7,AV.ref 7)],[(49,⟨3,true,false,ae bn A⟩),(1025,⟨3,true,false,ae bn (gv e)⟩),(7,⟨1,true,false,ah (g_ (A.take i))⟩),(1,⟨1,false,true,aG e⟩)]⟩:AS)) (fun i=>(i≤A.length)) (fun i=>(A.length-i)) (0) ?_ (zW [.nil 7 7 1,.aa [6,29,5,4,18,14,9,3,2,1,0,8,7] [49,1025,7,1]]) ?_
 ·omega
 intro i hi
 refine zS<|zP 1 [yH [(2,{k:=A.length})]] [.aa [53,6,29,5,4,18,14,9,3,2,1,0,8,7] [49,1025,7,1]] [yI OS] (zD 53 ((↑i:Int)<(↑A.length:Int)) (fun g=>?_) (fun g=>?_))
 ·have dc:i<A.length:=ag
  have ic:=Jo dc
  have hs:=UG i dc
  have hx:=y9 _ hs.1 ag (WJ i dc)
  have tK:=hlen i
  have nG:=CA (A.getD i default)
  have es:=HC A dc
  refine a6<|zS<|zB 2<|zX (yH [(3,{k:=i}),(4,yV (AV.agg (bn (A.getD i default)))),(5,yC hx),(6,{av:=some (AV.arr (ah (g_ (List.take i A)++(gS (A.getD i default)).toArray.toList))),b:=false})]) [yR (↑i:Int),yO (i*3<(ae bn A).length),yu bn A i 0 3,yR 3,yI hx,yB (ah (g_ (List.take i A))++ah (gS (A.getD i default)).toArray.toList=ah (g_ (List.take i A)++(gS (A.getD i default)).toArray.toList)) (da _ _),yB (cC (ah (gS (A.getD i default)).toArray.toList)) (gl _),yB (((ah (g_ (List.take i A))).length+(ah (gS (A.getD i default)).toArray.toList).length)*1≤140737488355328) (by simp only [aB];omega)]<|aK<|al<|zX (yH [(1,yV (ai ((↑i:Int)+1)))]) [yN ((↑i:Int)+1)] (aF (i+1) (by assumption) ag (eX [.wU 62 7,.aa [6,29,5,4,18,14,9,3,2,1,0,8,7] [49,1025,7,1]] [] [7] [yB (ah (g_ (List.take i A)++(gS (A.getD i default)).toArray.toList)=ah (g_ (List.take (i+1) A))) (by rw [←es])]))
 ·have ei:i=A.length:=ag
  subst ei
  refine zE 1<|a7<|aP<|bp<|al<|zq<|zR (zV [yB (ah (g_ (List.take A.length A))=ah (g_ A)) (by rw [List.take_length]),yR (Value.int .i64 0)])
end Go.Proofs.YtjgbhhnghedgdaaGreatDoor
