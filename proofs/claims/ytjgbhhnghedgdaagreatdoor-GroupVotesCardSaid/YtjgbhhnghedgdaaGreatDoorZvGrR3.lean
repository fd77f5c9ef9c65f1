import Derived.Test.YtjgbhhnghedgdaaGreatDoorZvGrR1
set_option linter.all false
namespace Go.Proofs.YtjgbhhnghedgdaaGreatDoor
open Go.RowKit
set_option maxRecDepth 100000
set_option maxHeartbeats 4000000
def isVal:AV->Bool
 | .val _=>true
 | _=>false
theorem Eu {l:List AV} (h:l.all isVal=true):kP l:=fun x hx=>by
 have:=List.all_eq_true.1 h x hx
 cases x<;>first|exact ⟨_,rfl⟩|cases this
def MT (e:fC):List fS:=if e.kind=1 then (if eF e.name≠0 then [] else [cX e.name,fj (d_ e.kh e.kr)]) else if e.kind=2 then [cX e.name] else if fI e=0 then gE e else []
theorem OD {e:fC} (h:fI e=0):MT e=gE e:=by
 unfold MT
 rw [show gE e=if e.kind=1 then [cX e.name,fj (d_ e.kh e.kr)] else if e.kind=2 then [cX e.name] else gE e by unfold gE;by_cases k1:e.kind=1;simp [k1];by_cases k2:e.kind=2;simp [k2];simp [k1,k2]]
 by_cases k1:e.kind=1
 ·have:eF e.name=0:=by
   unfold fI at h
   rw [if_pos k1] at h
   apply Classical.byContradiction;intro q;rw [if_pos q] at h;exact q h
  rw [if_pos k1,if_pos k1,if_neg ag]
 rw [if_neg k1,if_neg k1]
 by_cases k2:e.kind=2
 ·rw [if_pos k2,if_pos k2]
 rw [if_neg k2,if_neg k2,if_pos h]
theorem oA (e:fC) (h1:1≤e.kind) (h5:e.kind≤5) (hB:nB e):bG Tryz.prog 80 [.agg (bf e)] (.cw [.own 3 (af bp (MT e)),ai (fI e)]):=by
 obtain ⟨hn,hd⟩:=hB
 have hz:=rG e.name hn
 by_cases k1:e.kind=1
 ·have hf:fI e=if eF e.name≠0 then eF e.name else gC e.kh:=if_pos k1
  have hc:MT e=if eF e.name≠0 then [] else [cX e.name,fj (d_ e.kh e.kr)]:=if_pos k1
  by_cases c1:eF e.name=0
  case neg =>
   rw [if_pos c1] at hf hc
   rw [hc,hf]
   refine zO Tryz.func80 67<|zq<|zS<|zq<|zB 0<|zP 1 [{}] [.aa [9,8,3,2,1,0] [1]] []<|dB 9 (e.kind == (1:Int)) eJ<|zS<|zP 2 [yH [(2,yV (ai (eF e.name)))],yH [(1,yV (ao true))]] [.aa [15,4,9,8,3,2,1,0] [1]] [yI (fQ e.name hn),yB (ao (eF e.name != (0:Int))=ao true) (by simp [c1])]<|zT 15<|zq<|dC<|bc<|aK (bP)
  rw [if_neg ag] at hf hc
  have iY:=n_ e.kh e.kr
  rw [hc,hf]
  refine zO Tryz.func80 67<|zq<|zS<|zq<|zB 0<|zP 1 [{}] [.aa [9,8,3,2,1,0] [1]] []<|dB 9 (e.kind == (1:Int)) eJ<|zS<|zP 2 [yH [(2,yV (ai (eF e.name)))],yH [(1,yV (ao false))]] [.aa [15,4,9,8,3,2,1,0] [1]] [yI (fQ e.name hn),yB (ao (eF e.name != (0:Int))=ao false) (by simp [c1])]<|zF 15<|a_<|zP 2 [yH [(2,yC (dq (e.kh) (e.kr)))],yH [(2,yC (kG (e.name))),(4,yC (oJ (d_ e.kh e.kr) ag))]] [.aa [3,2,6,5,15,4,9,8,1,0] [28,1020,1]] [yI (dq e.kh e.kr),yI (aV (d_ e.kh e.kr)),yI (kG e.name),yI (oJ (d_ e.kh e.kr) ag)]<|zR<|bc<|aK (bP)
 by_cases k2:e.kind=2
 ·have hf:fI e=eF e.name:=by unfold fI;rw [if_neg k1,if_pos k2]
  have hc:MT e= [cX e.name]:=by unfold MT;rw [if_neg k1,if_pos k2]
  rw [hf,hc]
  refine zO Tryz.func80 67<|zq<|zS<|zq<|zB 0<|zP 1 [{}] [.aa [9,8,3,2,1,0] [1]] []<|bk 9 (e.kind == (1:Int)) bD<|zq<|dB 30 (e.kind == (2:Int)) eJ<|zS<|Rp 7 [3] [(2,yC (kG (e.name))),(3,yV (AV.own 3 (af bp [cX e.name]))),(6,yV (ai (eF e.name)))] [yI (kG e.name),yB (kP ((bp (cX e.name))++ [])) (Eu rfl),yI (fQ e.name hn)]<|al<|bg.rz [.aa [3,2,30,9,8,1,0] [35,1]] bu<|zR<|bc<|aK (bP)
 have hc:MT e=if fI e=0 then gE e else []:=by unfold MT;rw [if_neg k1,if_neg k2]
 rw [hc]
 by_cases k3:e.kind=3
 ·have hf:fI e=if e.bA<1∨8<e.bA then 9 else 0:=by unfold fI;rw [if_neg k1,if_neg k2,if_pos k3]
  by_cases c1:1≤e.bA∧e.bA≤8
  ·rw [if_neg ag] at hf
   have hv:gE e= [aN (u64 e.bA)]:=by unfold gE;rw [if_neg k1,if_neg k2,if_pos k3]
   rw [hf,if_pos rfl,hv]
   refine zO Tryz.func80 67<|zq<|zS<|zq<|zB 0<|zP 1 [{}] [.aa [9,8,3,2,1,0] [1]] []<|bk 9 (e.kind == (1:Int)) bD<|zq<|bk 30 (e.kind == (2:Int)) bD<|zP 1 [{}] [.aa [39,30,9,8,3,2,1,0] [1]] []<|dB 39 (e.kind == (3:Int)) eJ<|zS<|zP 1 [yH [(2,yC (aO (e.bA) ((1:Int)) ((8:Int))))]] [.aa [44,39,30,9,8,3,2,1,0] [1]] [yI (aO e.bA ((1:Int)) ((8:Int)))]<|bk 44 (!decide ((1:Int)≤e.bA∧e.bA≤8)) (by simp_all)<|a_<|zP 1 [yH [(2,yV (aw (u64 e.bA))),(3,yC (dp (u64 e.bA)))]] [.aa [3,2,44,39,30,9,8,1,0] [49,1]] [yI (a7 e.bA),yI (dp (u64 e.bA))]<|zR<|bc<|aK (bP)
  ·rw [if_pos ag] at hf
   rw [hf,if_neg ag]
   refine zO Tryz.func80 67<|zq<|zS<|zq<|zB 0<|zP 1 [{}] [.aa [9,8,3,2,1,0] [1]] []<|bk 9 (e.kind == (1:Int)) bD<|zq<|bk 30 (e.kind == (2:Int)) bD<|zP 1 [{}] [.aa [39,30,9,8,3,2,1,0] [1]] []<|dB 39 (e.kind == (3:Int)) eJ<|zS<|zP 1 [yH [(2,yC (aO (e.bA) ((1:Int)) ((8:Int))))]] [.aa [44,39,30,9,8,3,2,1,0] [1]] [yI (aO e.bA ((1:Int)) ((8:Int)))]<|dB 44 (!decide ((1:Int)≤e.bA∧e.bA≤8)) (by simp;omega)<|zq<|dC<|bc<|aK (bP)
 by_cases k4:e.kind=4
 ·have hf:fI e=fX e.dep:=by unfold fI;rw [if_neg k1,if_neg k2,if_neg k3,if_pos k4]
  have hv:gE e=wx e.dep:=by unfold gE;rw [if_neg k1,if_neg k2,if_neg k3,if_pos k4]
  rw [hf,hv]
  have Gs:=CS e.dep hd
  generalize (if fX e.dep=0 then wx e.dep else [])=V at *
  generalize fX e.dep=E at *
  refine zO Tryz.func80 67<|zq<|zS<|zq<|zB 0<|zP 1 [{}] [.aa [9,8,3,2,1,0] [1]] []<|bk 9 (e.kind == (1:Int)) bD<|zq<|bk 30 (e.kind == (2:Int)) bD<|zP 1 [{}] [.aa [39,30,9,8,3,2,1,0] [1]] []<|bk 39 (e.kind == (3:Int)) bD<|zq<|dB 50 (e.kind == (4:Int)) eJ<|zP 1 [yH [(2,yD Gs)]] [.aa [3,2,50,39,30,9,8,1,0] [1054,1]] [yI Gs]<|zR<|bc<|aK (bP)
 have hf:fI e=if e.target=0 then 9 else 0:=by unfold fI;rw [if_neg k1,if_neg k2,if_neg k3,if_neg k4]
 by_cases c1:e.target=0
 ·rw [if_pos c1] at hf
  rw [hf,if_neg ag]
  refine zO Tryz.func80 67<|zq<|zS<|zq<|zB 0<|zP 1 [{}] [.aa [9,8,3,2,1,0] [1]] []<|bk 9 (e.kind == (1:Int)) bD<|zq<|bk 30 (e.kind == (2:Int)) bD<|zP 1 [{}] [.aa [39,30,9,8,3,2,1,0] [1]] []<|bk 39 (e.kind == (3:Int)) bD<|zq<|bk 50 (e.kind == (4:Int)) bD<|zK<|aJ<|al<|zS<|zP 1 [yH [(2,yV (ao (e.target == 0)))]] [.aa [59,50,39,30,9,8,3,2,1,0] [1]] [yI (fe e.target 0)]<|dB 59 (e.target == 0) eJ<|zq<|dC (bP)
 rw [if_neg c1] at hf
 have hv:gE e= [aN e.bV,aN e.target]:=by unfold gE;rw [if_neg k1,if_neg k2,if_neg k3,if_neg k4]
 rw [hf,if_pos rfl,hv]
 refine zO Tryz.func80 67<|zq<|zS<|zq<|zB 0<|zP 1 [{}] [.aa [9,8,3,2,1,0] [1]] []<|bk 9 (e.kind == (1:Int)) bD<|zq<|bk 30 (e.kind == (2:Int)) bD<|zP 1 [{}] [.aa [39,30,9,8,3,2,1,0] [1]] []<|bk 39 (e.kind == (3:Int)) bD<|zq<|bk 50 (e.kind == (4:Int)) bD<|zK<|aJ<|al<|zS<|zP 1 [yH [(2,yV (ao (e.target == 0)))]] [.aa [59,50,39,30,9,8,3,2,1,0] [1]] [yI (fe e.target 0)]<|bk 59 (e.target == 0) bD<|a_<|zP 1 [{hs:=[(2,yC (dp (e.bV))),(5,yC (dp (e.target)))],T:=5}] [.aa [3,2,59,50,39,30,9,8,1,0] [66,1]] [yI (dp e.bV),yI (dp e.target)]<|zR (bP)
theorem KT (k:Int) (h1:1≤k) (h5:k≤5):bG Tryz.prog 82 [ai k] (ai (fU k)):=by
 by_cases k1:k=1
 ·have e:fU k=2:=if_pos (.inl k1)
  refine zO Tryz.func82 9<|zq<|zS<|zq<|zB 0<|zS<|zq<|dB 4 (k == (1:Int)) eJ<|a_<|dB 4 (k == (1:Int)) eJ<|zq<|zR<|bc<|aK (zV [yJ 2 (↑(fU k):Int) (by rw [e];rfl)])
 by_cases k5:k=5
 ·have e:fU k=2:=if_pos (.inr k5)
  refine zO Tryz.func82 9<|zq<|zS<|zq<|zB 0<|zS<|zq<|bk 4 (k == (1:Int)) bD<|zX {} []<|al<|dB 4 (k == (5:Int)) eJ<|zP 1 [{}] [.aa [2,4,3,0] []] []<|zR<|bc<|aK (zV [yJ 2 (↑(fU k):Int) (by rw [e];rfl)])
 by_cases k4:k=4
 ·have e:fU k=6:=by unfold fU;rw [if_neg ag,if_pos k4]
  refine zO Tryz.func82 9<|zq<|zS<|zq<|zB 0<|zS<|zq<|bk 4 (k == (1:Int)) bD<|zX {} []<|al<|bk 4 (k == (5:Int)) bD<|zP 1 [{}] [.aa [7,4,3,2,0] []] []<|dB 7 (k == (4:Int)) eJ<|zq<|zR<|bc<|aK (zV [yJ 6 (↑(fU k):Int) (by rw [e];rfl)])
 ·have e:fU k=1:=by unfold fU;rw [if_neg ag,if_neg k4]
  refine zO Tryz.func82 9<|zq<|zS<|zq<|zB 0<|zS<|zq<|bk 4 (k == (1:Int)) bD<|zX {} []<|al<|bk 4 (k == (5:Int)) bD<|zP 1 [{}] [.aa [7,4,3,2,0] []] []<|bk 7 (k == (4:Int)) bD<|zK<|aJ<|al<|zq<|zR (zV [yJ 1 (↑(fU k):Int) (by rw [e];rfl)])
theorem pr (b:List UInt8) (hb:b.length≤1000000):bG Tryz.prog 56 [.sl 1 (aj b)] (aw (hash 16 b)):=by
 refine zO Tryz.func56 5<|zP 2 [{},yH [(1,yV (aw (hash (16:Int) b)))]] [.aa [2,0] []] [yI (iQ ((16:Int)) b ag)]<|zR (bP)
def Kx (x:fS):Prop:=x.kind=3∨x.kind=4∨x.cL= []
theorem LU (e:fC):∀x∈gk e,Kx x:=by
 have hu (n:UInt64):Kx (aN n):=.inr (.inr rfl)
 have ha (n:UInt64):Kx (bM n):=.inr (.inr rfl)
 have ht (b:List UInt8):Kx (cX b):=.inr (.inl rfl)
 have hb (b:List UInt8):Kx (fj b):=.inl rfl
 intro x hx
 unfold gk at hx
 rcases List.mem_append.1 hx with hx|hx
 ·simp only [List.mem_cons,List.not_mem_nil,or_false] at hx
  rcases hx with rfl|rfl|rfl|rfl
  ·exact ha _
  ·exact hu _
  ·exact hu _
  ·exact hu _
 unfold gE wx at hx
 split at hx
 ·simp only [List.mem_cons,List.not_mem_nil,or_false] at hx
  rcases hx with rfl|rfl
  ·exact ht _
  ·exact hb _
 split at hx
 ·obtain rfl:=List.mem_singleton.1 hx;exact ht _
 split at hx
 ·obtain rfl:=List.mem_singleton.1 hx;exact hu _
 split at hx
 ·simp only [List.mem_append,List.mem_cons,List.not_mem_nil,or_false,List.mem_map] at hx
  rcases hx with ((((rfl|rfl|rfl))|(rfl|⟨_,_,rfl⟩))|(rfl|⟨_,_,rfl⟩))|rfl
  ·exact hu _
  ·exact hu _
  ·exact hb _
  ·exact ha _
  ·exact ht _
  ·exact ha _
  ·exact hu _
  ·exact hu _
 ·simp only [List.mem_cons,List.not_mem_nil,or_false] at hx
  rcases hx with rfl|rfl
  ·exact hu _
  ·exact hu _
theorem IJ {l:List fS} {i:Nat} (h:i<l.length):List.take 3 (List.drop (i*3) (af bp l))=bp (l.getD i default):=kM (e:=3) (fun _=>rfl) h
theorem GV (l:List fS) {i:Nat} (h:i<l.length):iu (l.take i)++kb (l.getD i default)=iu (l.take (i+1)):=by
 unfold iu
 rw [List.take_add_one,List.flatMap_append,List.getD_eq_getElem?_getD,List.getElem?_eq_getElem h]
 simp
theorem lH (e:fC) (hB:nB e):bG Tryz.prog 40 [.agg (bf e)] (.cw [.own 1 (aj (iJ e)),ai (fa e)]):=by
 by_cases c:fa e=0
 case neg =>
  have hb:iJ e= []:=if_neg c
  rw [hb]
  unfold fa
  by_cases k1:1≤e.kind∧e.kind≤5
  case neg =>
   rw [if_pos ag]
   refine zO Tryz.func40 64<|zq<|zS<|zB 0<|zP 1 [yH [(2,yC (aO (e.kind) ((1:Int)) ((5:Int))))]] [.aa [9,3,2,1,0] [1]] [yI (aO e.kind ((1:Int)) ((5:Int)))]<|dB 9 (!decide ((1:Int)≤e.kind∧e.kind≤5)) (by simp;omega)<|zq<|zR<|bc<|aK (bP)
  rw [if_neg ag]
  by_cases c1:fV e
  case neg =>
   rw [if_pos c1]
   refine zO Tryz.func40 64<|zq<|zS<|zB 0<|zP 1 [yH [(2,yC (aO (e.kind) ((1:Int)) ((5:Int))))]] [.aa [9,3,2,1,0] [1]] [yI (aO e.kind ((1:Int)) ((5:Int)))]<|bk 9 (!decide ((1:Int)≤e.kind∧e.kind≤5)) (by simp_all)<|zP 1 [yH [(1,yC (eO (e)))]] [.aa [14,9,3,2,1,0] [1]] [yI (eO e)]<|dB 14 (!decide (fV e)) (by simp_all)<|zq<|zR<|bc<|aK (bP)
  rw [if_neg (fun q=>q c1)]
  by_cases q1:1≤e.aC∧e.aC≤2147483647
  case neg =>
   rw [if_pos ag]
   refine zO Tryz.func40 64<|zq<|zS<|zB 0<|zP 1 [yH [(2,yC (aO (e.kind) ((1:Int)) ((5:Int))))]] [.aa [9,3,2,1,0] [1]] [yI (aO e.kind ((1:Int)) ((5:Int)))]<|bk 9 (!decide ((1:Int)≤e.kind∧e.kind≤5)) (by simp_all)<|zP 1 [yH [(1,yC (eO (e)))]] [.aa [14,9,3,2,1,0] [1]] [yI (eO e)]<|bk 14 (!decide (fV e)) (by simp_all)<|zP 1 [yH [(2,yC (aO (e.aC) ((1:Int)) ((2147483647:Int))))]] [.aa [18,14,9,3,2,1,0] [1]] [yI (aO e.aC ((1:Int)) ((2147483647:Int)))]<|dB 18 (!decide ((1:Int)≤e.aC∧e.aC≤2147483647)) (by simp;omega)<|zq<|zR<|bc<|aK (bP)
  rw [if_neg ag]
  have MK:fI e≠0:=by
   unfold fa at c
   rwa [if_neg ag,if_neg (fun q=>q c1),if_neg ag] at c
  refine zO Tryz.func40 64<|zq<|zS<|zB 0<|zP 1 [yH [(2,yC (aO (e.kind) ((1:Int)) ((5:Int))))]] [.aa [9,3,2,1,0] [1]] [yI (aO e.kind ((1:Int)) ((5:Int)))]<|bk 9 (!decide ((1:Int)≤e.kind∧e.kind≤5)) (by simp_all)<|zP 1 [yH [(1,yC (eO (e)))]] [.aa [14,9,3,2,1,0] [1]] [yI (eO e)]<|bk 14 (!decide (fV e)) (by simp_all)<|zP 1 [yH [(2,yC (aO (e.aC) ((1:Int)) ((2147483647:Int))))]] [.aa [18,14,9,3,2,1,0] [1]] [yI (aO e.aC ((1:Int)) ((2147483647:Int)))]<|bk 18 (!decide ((1:Int)≤e.aC∧e.aC≤2147483647)) (by simp_all)<|zK<|aJ<|al<|zP 1 [yH [(1,yD (oA (e) ag ag hB))]] [.aa [5,4,18,14,9,3,2,1,0] [1025,1]] [yI (oA e ag ag hB)]<|zS<|zQ 1 [yH [(1,yV (ao true))]] [yB (ao (fI e != (0:Int))=ao true) (by simp [MK])]<|zT 29<|zP 1 [{}] [.aa [3,2,29,5,4,18,14,9,1,0] [1025,1]] []<|dC (bP)
 have hb:iJ e=iu (gk e):=if_pos c
 rw [hb,c]
 obtain ⟨v1,v2,v3,v4,v5,v6,v7⟩:=Aj c
 unfold fa at c
 by_cases k1:1≤e.kind∧e.kind≤5
 case neg=>rw [if_pos ag] at c;omega
 rw [if_neg ag] at c
 by_cases c1:fV e
 case neg=>rw [if_pos c1] at c;omega
 rw [if_neg (fun q=>q c1)] at c
 by_cases q1:1≤e.aC∧e.aC≤2147483647
 case neg=>rw [if_pos ag] at c;omega
 rw [if_neg ag] at c
 have hf:=oA e k1.1 k1.2 hB
 rw [c,OD c] at hf
 have ht:=Ev e.kind
 have hv:(af bp (gE e)).length≤90:=by
  have:(gk e).length=4+(gE e).length:=by unfold gk;rw [List.length_append];rfl
  rw [aE (e:=3) (fun _=>rfl)];omega
 have w1:IntKind.i64.wrap (3+(fU e.kind:Int))=3+(fU e.kind:Int):=by rw [IntKind.wrap_i64];omega
 have s1:af bp [bM (u64 (3+fU e.kind)),aN (u64 e.aC),aN e.prev,aN (u64 e.kind)]++af bp (gE e)=af bp (gk e):=fb _ _
 have Um:∀i,i<(gk e).length->fg ((gk e).getD i default).kind∧((gk e).getD i default).cL.length≤10000:=fun i hi=>by
  rw [List.getD_eq_getElem?_getD,List.getElem?_eq_getElem hi]
  exact v6 _ (List.getElem_mem hi)
 have Wm:∀i,i<(gk e).length->((gk e).getD i default).kind=3∨((gk e).getD i default).kind=4∨((gk e).getD i default).cL= []:=fun i hi=>by
  rw [List.getD_eq_getElem?_getD,List.getElem?_eq_getElem hi]
  exact LU e _ (List.getElem_mem hi)
 have hlen:∀i,(iu ((gk e).take i)).length≤300270:=fun i=>qW (n:=30) (fun x hx=>(v6 x (List.mem_of_mem_take hx)).2) (by rw [List.length_take];omega)
 clear v1 v2 v3 v4 v6 v7 hb
 refine zO Tryz.func40 64<|zq<|zS<|zB 0<|zP 1 [yH [(2,yC (aO (e.kind) ((1:Int)) ((5:Int))))]] [.aa [9,3,2,1,0] [1]] [yI (aO e.kind ((1:Int)) ((5:Int)))]<|bk 9 (!decide ((1:Int)≤e.kind∧e.kind≤5)) (by simp_all)<|zP 1 [yH [(1,yC (eO (e)))]] [.aa [14,9,3,2,1,0] [1]] [yI (eO e)]<|bk 14 (!decide (fV e)) (by simp_all)<|zP 1 [yH [(2,yC (aO (e.aC) ((1:Int)) ((2147483647:Int))))]] [.aa [18,14,9,3,2,1,0] [1]] [yI (aO e.aC ((1:Int)) ((2147483647:Int)))]<|bk 18 (!decide ((1:Int)≤e.aC∧e.aC≤2147483647)) (by simp_all)<|zK<|aJ<|al<|zP 1 [yH [(1,yD hf)]] [.aa [5,4,18,14,9,3,2,1,0] [1025,1]] [yI hf]<|zS<|zq<|zF 29<|a_<|zS<|Rp 18 [16] [(2,yV (ai (↑(fU e.kind):Int))),(3,yV (ai ((3:Int)+(↑(fU e.kind):Int)))),(4,yC (mm ((3:Int)+(↑(fU e.kind):Int)))),(7,yV (aw (u64 e.aC))),(8,yC (dp (u64 e.aC))),(11,yC (dp (e.prev))),(14,yV (aw (u64 e.kind))),(15,yC (dp (u64 e.kind))),(18,{av:=some (AV.arr (af bp (gk e))),b:=false}),(19,yV (AV.ref 49))] [yI (KT e.kind ag ag),yN ((3:Int)+(↑(fU e.kind):Int)),yI (mm ((3:Int)+(↑(fU e.kind):Int))),yI (a7 e.aC),yI (dp (u64 e.aC)),yI (dp e.prev),yI (a7 e.kind),yI (dp (u64 e.kind)),yB (kP ([ai ((bM (u64 ((3:Int)+(↑(fU e.kind):Int)))).kind),aw ((bM (u64 ((3:Int)+(↑(fU e.kind):Int)))).num),AV.val (Value.string (ByteArray.mk (bM (u64 ((3:Int)+(↑(fU e.kind):Int)))).cL.toArray))]++((bp (aN (u64 e.aC)))++((bp (aN e.prev))++((bp (aN (u64 e.kind)))++ []))))) (Eu rfl),yR (af bp (gk e)),yB (cp (af bp (gE e))) (dm xD _),yO ((12+(af bp (gE e)).length)*32≤422212465065984),yR (AV.ref 49)]<|al<|bg.rz [.aa [6,29,5,4,18,14,9,3,2,1,0] [49,1025,1]] bu<|zq<|zS<|bg.mj 1 [{}] bu (s':=AS.mk [(8,ai 0),(7,AV.nil),(6,AV.ref 49),(29,ao ((0:Int) != (0:Int))),(5,ai 0),(4,AV.ref 1025),(18,ao (!decide ((1:Int)≤e.aC∧e.aC≤2147483647))),(14,ao (!decide (fV e))),(9,ao (!decide ((1:Int)≤e.kind∧e.kind≤5))),(3,ai 0),(2,AV.nil),(1,AV.addr 1 0),(0,AV.agg (bf e))] [(49,Row.mk 3 true false (af bp (gk e))),(1025,Row.mk 3 true false (af bp (gE e))),(1,Row.mk 1 false true (List.map (aF 49) (bE 47 (Row.mk 1 false true (List.map (aF 1025) (List.map (aF 1) (bf e))))).cells))]) (C:=[]) bu trivial<|zB 1 ?_
 have LD:(af bp (gk e)).length=(gk e).length*3:=aE (e:=3) (fun _=>rfl) ..
 generalize gk e=A at *
 refine zL (fun (i:Nat)=>(⟨[(6,AV.ref 49),(29,ao ((0:Int) != (0:Int))),(5,ai 0),(4,AV.ref 1025),(18,ao (!decide ((1:Int)≤e.aC∧e.aC≤2147483647))),(14,ao (!decide (fV e))),(9,ao (!decide ((1:Int)≤e.kind∧e.kind≤5))),(3,ai 0),(2,AV.nil),(1,AV.addr 1 0),(0,AV.agg (bf e)),(8,ai i),(7,AV.ref 7)],[(49,⟨3,true,false,af bp A⟩),(1025,⟨3,true,false,af bp (gE e)⟩),(7,⟨1,true,false,aj (iu (A.take i))⟩),(1,⟨1,false,true,bf e⟩)]⟩:AS)) (fun i=>(i≤A.length)) (fun i=>(A.length-i)) (0) ?_ (zW [.nil 7 7 1,.aa [6,29,5,4,18,14,9,3,2,1,0,8,7] [49,1025,7,1]]) ?_
 ·omega
 intro i hi
 refine zS<|zP 1 [yH [(2,{k:=A.length})]] [.aa [53,6,29,5,4,18,14,9,3,2,1,0,8,7] [49,1025,7,1]] [yI LD] (zD 53 ((↑i:Int)<(↑A.length:Int)) (fun g=>?_) (fun g=>?_))
 ·have dI:i<A.length:=ag
  have gM:=IJ dI
  have hs:=Um i dI
  have hx:=yQ _ hs.1 ag (Wm i dI)
  have ud:=hlen i
  have qc:=Cb (A.getD i default)
  have es:=GV A dI
  refine a_<|zS<|zB 2<|zX (yH [(3,{k:=i}),(4,yV (AV.agg (bp (A.getD i default)))),(5,yC hx),(6,{av:=some (AV.arr (aj (iu (List.take i A)++(kb (A.getD i default)).toArray.toList))),b:=false})]) [yR (↑i:Int),yO (i*3<(af bp A).length),yu bp A i 0 3,yR 3,yI hx,yB (aj (iu (List.take i A))++aj (kb (A.getD i default)).toArray.toList=aj (iu (List.take i A)++(kb (A.getD i default)).toArray.toList)) (db _ _),yB (cp (aj (kb (A.getD i default)).toArray.toList)) (gi _),yB (((aj (iu (List.take i A))).length+(aj (kb (A.getD i default)).toArray.toList).length)*1≤140737488355328) (by simp only [aB];omega)]<|aJ<|al<|zX (yH [(1,yV (ai ((↑i:Int)+1)))]) [yN ((↑i:Int)+1)] (aH (i+1) (by assumption) ag (eS [.uX 62 7,.aa [6,29,5,4,18,14,9,3,2,1,0,8,7] [49,1025,7,1]] [] [7] [yB (aj (iu (List.take i A)++(kb (A.getD i default)).toArray.toList)=aj (iu (List.take (i+1) A))) (by rw [←es])]))
 ·have ei:i=A.length:=ag
  subst ei
  refine zE 1<|a6<|aM<|bm<|al<|zq<|zR (zV [yB (aj (iu (List.take A.length A))=aj (iu A)) (by rw [List.take_length]),yR (Value.int .i64 0)])
end Go.Proofs.YtjgbhhnghedgdaaGreatDoor
