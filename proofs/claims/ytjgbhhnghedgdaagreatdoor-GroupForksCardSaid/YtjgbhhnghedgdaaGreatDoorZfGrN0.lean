import Derived.Test.YtjgbhhnghedgdaaGreatDoorZfGrK2
import Derived.Test.YtjgbhhnghedgdaaGreatDoorZfGrC3
set_option linter.all false
namespace Go.Proofs.YtjgbhhnghedgdaaGreatDoor
open Go.RowKit
set_option maxRecDepth 100000
set_option maxHeartbeats 4000000
instance:Inhabited dj:=⟨⟨0,0,0,[],0,0,0,⟨0,0,[],[],[],0,0⟩,0,0,[]⟩⟩
theorem qY {l:List dj} {i:Nat} (h:i<l.length):List.take 17 (List.drop (i*17) (ae aG l))=aG (l.getD i default):=jz (e:=17) (fun _=>rfl) h
theorem M5 {g:fG} (e:dj) (hG:ni g):ni (ga g e):=by
 by_cases c:eW g e=0
 ·exact K5 hG c
 ·rw [ur c];exact hG
def wS (l:List dj):Prop:=∀e∈l,l8 e∧e.ak.length≤10
theorem wS.at_ {l:List dj} (h:wS l) {i:Nat} (hi:i<l.length):l8 (l.getD i default)∧(l.getD i default).ak.length≤10:=h _ (by rw [List.getD_eq_getElem?_getD,List.getElem?_eq_getElem hi];exact List.getElem_mem hi)
theorem Ov {m:Mem} (h:gr m=0):ni (bU m)∧EZ (bU m):=by
 rw [show bU m=⟨0,hash 16 (dP m.h m.r++m.name),1,[m],[]⟩ from if_pos h]
 exact ⟨⟨Int.le_refl 0,(show (0:Int)≤2147483647 by omega),(ag:1≤8),(show (0:Int)≤1 by omega),(show (1:Int)≤8 by omega),Nat.zero_le _⟩,fun d hd=>by cases hd⟩
def jv (l:List dj) (g:fG):Nat->fG
 | 0=>g
 | i+1=>ga (jv l g i) (l.getD i default)
def lQ (l:List dj) (g:fG) (i:Nat):Int:=eW (jv l g i) (l.getD i default)
def pG (m:Mem) (l:List dj):Int:=if gr m≠0 then gr m else ff (lQ l (bU m)) l.length
def My:List AV:=[ai 0,aw 0,ai 0,.nil,.nil]
def Dj (m:Mem) (l:List dj):List AV:=if pG m l=0 then de (jv l (bU m) l.length) else My
theorem IF {l:List dj} {g:fG} (hG:ni g):∀i,ni (jv l g i)
 | 0=>hG
 | i+1=>M5 _ (IF hG i)
theorem uV (m:Mem) (l:List dj) (hm:m.name.length≤1000) (hl:l.length≤1000000) (hE:wS l):bA Tryz.prog 33 [.agg (aN m),.sl 17 (ae aG l)] (.b_ [.agg (Dj m l),ai (pG m l)]):=by
 have tK:(ae aG l).length=l.length*17:=aA (e:=17) (fun _=>rfl) ..
 have hn:=Cg m hm
 by_cases c:gr m=0
 case neg =>
  have ce:pG m l=gr m:=if_pos c
  have cc:Dj m l=My:=if_neg ag
  rw [cc,ce]
  refine zO Tryz.func33 37<|zP 2 [{},yH [(1,yD hn)]] [.aa [7,6,5,4,2,0,1] [6,501012,401012,4,2]] [yI hn,yL 5 5]<|zS<|zQ 1 [yH [(1,yV (ao true))]] [yB (ao (gr m != (0:Int))=ao true) (by simp [c])]<|zT 16<|zP 1 [{}] [.aa [5,16,7,6,4,2,0,1] [4,6,501012,401012,2]] [yL 5 5]<|dk (bL)
 have hB:=(Ov c).1
 rw [c] at hn
 have ce:pG m l=ff (lQ l (bU m)) l.length:=if_neg (fun q=>q c)
 unfold Dj
 rw [ce]
 generalize bU m=G at *
 refine zO Tryz.func33 37<|zP 2 [{},yH [(1,yD hn)]] [.aa [7,6,5,4,2,0,1] [6,501012,401012,4,2]] [yI hn,yL 5 5]<|zS<|zq<|zF 16<|a6<|zS<|zQ 1 [yH [(1,{k:=l.length})]] [yI tK]<|zB 0<|bf.tD [.gM 401012,.gM 501012] bC (zL (fun (i:Nat)=>(⟨[(20,ai (↑l.length:Int)),(19,AV.sl 17 (ae aG l)),(16,ao ((0:Int) != (0:Int))),(6,AV.addr 6 0),(4,AV.addr 4 0),(2,AV.addr 2 0),(0,AV.agg (aN m)),(1,AV.sl 17 (ae aG l)),(21,ai i)],[(4,⟨1,false,true,[ai 0,dY,ai 0,AV.nil,AV.nil]⟩),(2,⟨1,false,true,List.map (lD 501012 (gg 401012 (Row.mk 4 true false (ae aN G.aq)) (Row.mk 7 true false (ae bk G.aR)))) (gg 401012 (Row.mk 4 true false (ae aN G.aq)) (Row.mk 1 false true (List.map (aH 6) (List.map (aH 401012) (cF 501012 (Row.mk 1 false true (List.map (aH 4) (List.map (aH 2) (aN m))))).cells)))).cells⟩),(6,⟨1,false,true,de (jv l G i)⟩)]⟩:AS)) (fun i=>(i≤l.length∧ff (lQ l G) i=0)) (fun i=>(l.length-i)) (0) ?_ (zW [.aa [20,19,16,6,4,2,0,1,21] [4,2,6]]) ?_)
 ·exact ⟨ag,rfl⟩
 rintro i ⟨hi,h0⟩
 have Xb:=IF (l:=l) hB i
 refine zq<|zS (zD 22 ((↑i:Int)<(↑l.length:Int)) (fun q=>?_) (fun q=>?_))
 ·have dc:i<l.length:=ag
  have ic:=qY dc
  obtain ⟨b1,b2⟩:=hE.at_ dc
  have Ca:=oY (jv l G i) (l.getD i default) Xb b1 ag
  have hx:lQ l G i=eW (jv l G i) (l.getD i default):=rfl
  have hs:jv l G (i+1)=ga (jv l G i) (l.getD i default):=rfl
  rw [←hx,←hs] at Ca
  by_cases cx:lQ l G i=0
  ·rw [cx] at Ca
   refine a6<|zS<|zB 1<|zP 3 [yH [(0,{k:=i}),(1,yV (AV.agg (aG (l.getD i default))))],yH [(2,yD Ca)],{}] [.aa [32,7,9,22,20,19,16,6,4,2,0,1,21] [6,9,4,2]] [yR (↑i:Int),yO (i*17<(ae aG l).length),yu aG l i 0 17,yR 17,yL 17 17,yI Ca,yL 5 5]<|zF 32<|zK<|aK<|al<|zX (yH [(0,yV (ai ((↑i:Int)+1)))]) [yN ((↑i:Int)+1)] (aF (i+1) ⟨ag,by show (if _ then _ else _)=_;rw [if_neg ag,cx]⟩ ag (zW [.aa [20,19,16,6,4,2,0,1,21] [4,2,6]]))
  ·have k2:ff (lQ l G) (i+1)=lQ l G i:=by show (if _ then _ else _)=_;rw [if_neg ag]
   have k3:=kz cx k2 l.length dc
   rw [k3,if_neg cx]
   refine a6<|zS<|zB 1<|zP 3 [yH [(0,{k:=i}),(1,yV (AV.agg (aG (l.getD i default))))],yH [(2,yD Ca)],yH [(1,yV (ao true))]] [.aa [32,7,9,22,20,19,16,6,4,2,0,1,21] [6,9,4,2]] [yR (↑i:Int),yO (i*17<(ae aG l).length),yu aG l i 0 17,yR 17,yL 17 17,yI Ca,yL 5 5,yB (ao (lQ l G i != (0:Int))=ao true) (by simp [cx])]<|zT 32<|zP 1 [{}] [.aa [5,32,7,9,22,20,19,16,6,4,2,0,1,21] [4,6,9,2]] [yL 5 5]<|zR<|ba<|aI<|dh<|ba<|aI (bL)
 ·have ei:i=l.length:=ag
  subst ei
  rw [h0,if_pos rfl]
  refine zE 0<|a7<|aP<|bp<|al<|zP 1 [{}] [.aa [5,22,20,19,16,6,4,2,0,1,21] [4,2,6]] [yL 5 5]<|zR (bL)
def kf:List dj->List dj->Nat
  | x::a,y::b=>if dM x=dM y then kf a b+1 else 0
  | _,_=>0
def SB (a b:List dj) (k:Nat):Prop:=dM (a.getD k default)=dM (b.getD k default)
theorem Ax:∀ {a b:List dj} {k:Nat},k≤a.length->k≤b.length->(∀j,j<k->SB a b j)->(k<a.length->k<b.length-> ¬SB a b k)->kf a b=k
  | [],_,k,h1,_,_,_=>by
    have:k=0:=by simpa using h1
    subst this;rfl
  | _::_,[],k,_,h2,_,_=>by
    have:k=0:=by simpa using h2
    subst this;rfl
  | x::a,y::b,k,h1,h2,h3,h4=>by
    unfold kf
    cases k with
    | zero=>exact if_neg (h4 (Nat.succ_pos _) (Nat.succ_pos _))
    | succ k =>
      refine (if_pos (h3 0 (Nat.succ_pos _))).trans ?_
      rw [Ax (a:=a) (b:=b) (k:=k) (by simpa using h1) (by simpa using h2) (fun j hj=>h3 (j+1) ag) (fun q1 q2=>h4 (by simpa using q1) (by simpa using q2))]
theorem EM:∀a b:List dj,kf a b≤a.length∧kf a b≤b.length
  | [],b=>⟨Nat.zero_le _,Nat.zero_le _⟩
  | _::_,[]=>⟨Nat.zero_le _,Nat.zero_le _⟩
  | x::a,y::b=>by
    unfold kf
    have:=EM a b
    split
    · exact ⟨Nat.succ_le_succ this.1,Nat.succ_le_succ this.2⟩
    · exact ⟨Nat.zero_le _,Nat.zero_le _⟩
def ie (V W:List gW):List (List UInt8):=(V.filter fun v=>l0 W v.name).map gW.name
theorem Hm (V W:List gW) {i:Nat} (h:i<V.length):ie (V.take (i+1)) W=ie (V.take i) W++if l0 W (V.getD i default).name=true then [(V.getD i default).name] else []:=by
  unfold ie
  rw [List.take_add_one,List.getD_eq_getElem?_getD,List.getElem?_eq_getElem h]
  simp only [Option.toList,Option.getD,List.filter_append,List.map_append]
  congr 1
  by_cases c:l0 W V[i].name=true
  · rw [if_pos c];simp [c]
  · rw [if_neg c];simp [c]
theorem Cr (V W:List gW):(ie V W).length≤V.length:=by unfold ie;rw [List.length_map];exact List.length_filter_le ..
def DE (m:Mem) (a b:List dj):Int:=if pG m a≠0 then pG m a else pG m b
def I9 (m:Mem) (a b:List dj):Nat:=if DE m a b=0 then kf a b else 0
def DD (m:Mem) (a b:List dj):List (List UInt8):=if DE m a b=0∧kf a b<a.length∧kf a b<b.length then ie (a.getD (kf a b) default).ak (b.getD (kf a b) default).ak else []
theorem wy {l:List dj} {i:Nat} (h:i<l.length):(ae aG l)[i*17+16]?=some (.sl 4 (ae aW (l.getD i default).ak)):=m_ (f:=aG) (e:=17) (k:=i) (j:=16) (fun _=>rfl) h rfl
theorem MX (a b:List UInt8) (ha:a.length≤1000000) (hb:b.length≤1000000):bA Tryz.prog 65 [.sl 1 (ah a),.sl 1 (ah b)] (ao (a == b)):=by
  refine zO Tryz.func65 10<|zP 2 [{},yH [(1,yV (di a)),(3,yV (di b)),(4,yV (ao (a == b)))]] [.aa [4,0,1] []] [yR (ah a),yR (ah b),yI (eY a b)]<|zR (bL)
theorem C4 (x v:gW):bA Tryz.prog 66 [.agg (aW x),.ptr (aW v) 0] (ao (x.name == v.name)):=by
  refine zO Tryz.func66 9<|zP 2 [{},yH [(4,yV (ao (x.name == v.name)))]] [.aa [3,2,0,1] [2]] [yI (eY x.name v.name)]<|zR (bL)
theorem C5 (W:List gW) (v:gW) (xc:W.length≤1000000):bA Tryz.prog 67 [.sl 4 (ae aW W),.lu 66 [.ptr (aW v) 0]] (ao (l0 W v.name)):=by
  have hl:(ae aW W).length=W.length*4:=aA (e:=4) (fun _=>rfl) ..
  obtain ⟨n,hn,Rh⟩:∃n:Int,bA Tryz.prog 113 [.sl 4 (ae aW W),.lu 66 [.ptr (aW v) 0]] (ai n)∧decide (n≥0)=l0 W v.name:=by
    refine ⟨if l0 W v.name=true then ((W.findIdx fun x=>x.name == v.name:Nat):Int) else -1,?_,?_⟩
    case refine_2 =>
      by_cases c:l0 W v.name=true
      · rw [if_pos c,c];exact decide_eq_true ag
      · rw [if_neg c]
        have c2:l0 W v.name=false:=by simpa using c
        rw [c2];exact decide_eq_false ag
    case refine_1 =>
      refine zO Tryz.func113 19<|zq<|zS<|zQ 1 [yH [(1,{k:=W.length})]] [yI hl]<|zB 0 (zL (fun (i:Nat)=>(⟨[(7,ai (↑W.length:Int)),(0,AV.sl 4 (ae aW W)),(1,AV.lu 66 [AV.ptr (aW v) 0]),(8,ai i)],[]⟩:AS)) (fun i=>(i≤W.length∧ ∀j,j<i->(W.getD j default).name≠v.name)) (fun i=>(W.length-i)) (0) ?_ (zW [.aa [7,0,1,8] []]) ?_)
      · exact ⟨ag,ag⟩
      rintro i ⟨hi,fO⟩
      refine zq<|zS (zD 9 ((↑i:Int)<(↑W.length:Int)) (fun g=>?_) (fun g=>?_))
      · have dc:i<W.length:=ag
        have hc:=C4 (W.getD i default) v
        have ic:=jF dc
        by_cases e:(W.getD i default).name=v.name
        · have hd:=Gc dc e
          have hf:W.findIdx (fun x=>x.name == v.name)=i:=by
            rw [List.findIdx_eq dc]
            rw [List.getD_eq_getElem?_getD,List.getElem?_eq_getElem dc] at e
            refine ⟨by simpa using e,fun j hj=>?_⟩
            have:=fO j hj
            rw [List.getD_eq_getElem?_getD,List.getElem?_eq_getElem ag] at this
            simpa using this
          rw [if_pos hd,hf]
          refine a6<|zS<|zB 1<|zP 2 [{},yH [(3,{k:=i}),(4,yV (AV.agg (aW (W.getD i default)))),(5,yC hc)]] [.aa [16,5,9,7,0,1,8] []] [yR (↑i:Int),yO (i*4<(ae aW W).length),yu aW W i 0 4,yR 4,yI hc]<|du 16 ((W.getD i default).name == v.name) (by simp_all)<|zq<|zR<|ba<|aI<|dh<|ba<|aI (bL)
        · skip
          refine a6<|zS<|zB 1<|zP 2 [{},yH [(3,{k:=i}),(4,yV (AV.agg (aW (W.getD i default)))),(5,yC hc)]] [.aa [16,5,9,7,0,1,8] []] [yR (↑i:Int),yO (i*4<(ae aW W).length),yu aW W i 0 4,yR 4,yI hc]<|bj 16 ((W.getD i default).name == v.name) (by simp_all)<|zK<|aK<|al<|zX (yH [(0,yV (ai ((↑i:Int)+1)))]) [yN ((↑i:Int)+1)] (aF (i+1) ⟨ag,fun j hj=>by by_cases e2:j=i;(subst e2;exact e);exact fO j ag⟩ ag (zW [.aa [7,0,1,8] []]))
      · have hd:=Aq (l:=W) (n:=v.name) (fun j hj=>fO j ag)
        rw [if_neg (by rw [hd];decide)]
        refine zE 0<|a7<|aP<|bp<|al<|zq<|zR (bL)
  refine zO Tryz.func67 9<|zP 2 [{},yH [(2,yC hn)]] [.aa [4,0,1] []] [yI hn]<|zR (zV [yB (Value.bool (decide (n≥0))=Value.bool (l0 W v.name)) (by rw [Rh])])
theorem zJ (e:dj):(dM e).length≤500000:=by
  by_cases c:eO e=0
  · exact qR e c
  · rw [show dM e= [] from if_neg c];exact Nat.zero_le _
end Go.Proofs.YtjgbhhnghedgdaaGreatDoor
