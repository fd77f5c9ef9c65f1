import Derived.Test.YtjgbhhnghedgdaaGreatDoorZmGrK2
import Derived.Test.YtjgbhhnghedgdaaGreatDoorZmGrC3
set_option linter.all false
namespace Go.Proofs.YtjgbhhnghedgdaaGreatDoor
open Go.RowKit
set_option maxRecDepth 100000
set_option maxHeartbeats 4000000
instance:Inhabited dP:=⟨⟨0,0,0,[],0,0,0,⟨0,0,[],[],[],0,0⟩,0,0,[]⟩⟩
theorem ox {l:List dP} {i:Nat} (h:i<l.length):List.take 17 (List.drop (i*17) (ae aI l))=aI (l.getD i default):=jm (e:=17) (fun _=>rfl) h
theorem L7 {g:gp} (e:dP) (hG:mj g):mj (ia g e):=by
 by_cases c:fD g e=0
 ·exact J_ hG c
 ·rw [tC c];exact hG
theorem Aw (g:gp) (hG:mj g) (hH:wx g):bC Tryz.prog 21 [.agg (bo g),.agg (bo g)] (ao true):=Au g (by have:=hG.m8;omega) (by have:=hG.d8;omega) hH
def na (l:List dP):Prop:=∀e∈l,mY e∧e.aq.length≤10
theorem na.at_ {l:List dP} (h:na l) {i:Nat} (hi:i<l.length):mY (l.getD i default)∧(l.getD i default).aq.length≤10:=h _ (by rw [List.getD_eq_getElem?_getD,List.getElem?_eq_getElem hi];exact List.getElem_mem hi)
theorem CV {m:Mem} (h:eY m=0):mj (bH m)∧wx (bH m):=by
 rw [show bH m=⟨0,hash 16 (dh m.h m.r++m.name),1,[m],[]⟩ from if_pos h]
 exact ⟨⟨Int.le_refl 0,(show (0:Int)≤2147483647 by omega),(ah:1≤8),(show (0:Int)≤1 by omega),(show (1:Int)≤8 by omega),Nat.zero_le _⟩,fun d hd=>by cases hd⟩
def jh (l:List dP) (g:gp):Nat->gp
 | 0=>g
 | i+1=>ia (jh l g i) (l.getD i default)
def k9 (l:List dP) (g:gp) (i:Nat):Int:=fD (jh l g i) (l.getD i default)
def iQ (m:Mem) (l:List dP):Int:=if eY m≠0 then eY m else ff (k9 l (bH m)) l.length
def BD:List AV:=[ai 0,aw 0,ai 0,.nil,.nil]
def lz (m:Mem) (l:List dP):List AV:=if iQ m l=0 then bo (jh l (bH m) l.length) else BD
theorem xP {l:List dP} {g:gp} (hG:mj g):∀i,mj (jh l g i)
 | 0=>hG
 | i+1=>L7 _ (xP hG i)
theorem HO {l:List dP} {g:gp} (hl:na l) (hH:wx g):∀i,i≤l.length->wx (jh l g i)
 | 0,_=>hH
 | i+1,h=>(HO hl hH i ah).Uu (hl.at_ (i:=i) ah).1.dep.Bp
theorem pe (m:Mem) (l:List dP) (hm:m.name.length≤1000) (hl:l.length≤1000000) (hE:na l):bC Tryz.prog 33 [.agg (aG m),.sl 17 (ae aI l)] (.bk [.agg (lz m l),ai (iQ m l)]):=by
 have oJ:(ae aI l).length=l.length*17:=aE (e:=17) (fun _=>rfl) ..
 have hn:=BF m hm
 by_cases c:eY m=0
 case neg =>
  have ce:iQ m l=eY m:=if_pos c
  have cc:lz m l=BD:=if_neg ah
  rw [cc,ce]
  refine zO Tryz.func33 37<|zP 2 [{},yH [(1,{av:=some (AV.bk [AV.agg [ai ((bH m).aA),aw ((bH m).head),ai ((bH m).br),AV.own 4 (ae aG (bH m).al),AV.own 7 (ae a_ (bH m).aL)],ai (eY m)]),b:=false})]] [.aa [7,6,5,4,2,0,1] [6,501012,401012,4,2]] [yI hn,yL 5 5]<|zS<|zQ 1 [yH [(1,yV (ao true))]] [yB (ao (eY m != (0:Int))=ao true) (by simp [c])]<|zT 16<|zP 1 [{}] [.aa [5,16,7,6,4,2,0,1] [4,6,501012,401012,2]] [yL 5 5]<|dd (bL)
 have hB:=(CV c).1
 rw [c] at hn
 have ce:iQ m l=ff (k9 l (bH m)) l.length:=if_neg (fun q=>q c)
 unfold lz
 rw [ce]
 generalize bH m=G at *
 refine zO Tryz.func33 37<|zP 2 [{},yH [(1,{av:=some (AV.bk [AV.agg [ai G.aA,aw G.head,ai G.br,AV.own 4 (ae aG G.al),AV.own 7 (ae a_ G.aL)],ai 0]),b:=false})]] [.aa [7,6,5,4,2,0,1] [6,501012,401012,4,2]] [yI hn,yL 5 5]<|zS<|zq<|zF 16<|aW<|zS<|zQ 1 [yH [(1,{k:=l.length})]] [yI oJ]<|zB 0<|bf.r9 [.gq 401012,.gq 501012] bt (zL (fun (i:Nat)=>(⟨[(20,ai (↑l.length:Int)),(19,AV.sl 17 (ae aI l)),(16,ao ((0:Int) != (0:Int))),(6,AV.addr 6 0),(4,AV.addr 4 0),(2,AV.addr 2 0),(0,AV.agg (aG m)),(1,AV.sl 17 (ae aI l)),(21,ai i)],[(4,⟨1,false,true,[ai 0,cN,ai 0,AV.nil,AV.nil]⟩),(2,⟨1,false,true,List.map (kB 501012 (fR 401012 (Row.mk 4 true false (ae aG G.al)) (Row.mk 7 true false (ae a_ G.aL)))) (fR 401012 (Row.mk 4 true false (ae aG G.al)) (Row.mk 1 false true (List.map (aB 6) (List.map (aB 401012) (cK 501012 (Row.mk 1 false true (List.map (aB 4) (List.map (aB 2) (aG m))))).cells)))).cells⟩),(6,⟨1,false,true,bo (jh l G i)⟩)]⟩:AS)) (fun i=>(i≤l.length∧ff (k9 l G) i=0)) (fun i=>(l.length-i)) (0) ?_ (zW [.aa [20,19,16,6,4,2,0,1,21] [4,2,6]]) ?_)
 ·exact ⟨ah,rfl⟩
 rintro i ⟨hi,h0⟩
 have S6:=xP (l:=l) hB i
 refine zq<|zS (zD 22 ((↑i:Int)<(↑l.length:Int)) (fun q=>?_) (fun q=>?_))
 ·have cX:i<l.length:=ah
  have gh:=ox cX
  obtain ⟨b1,b2⟩:=hE.at_ cX
  have Ci:=oC (jh l G i) (l.getD i default) S6 b1 ah
  have hx:k9 l G i=fD (jh l G i) (l.getD i default):=rfl
  have hs:jh l G (i+1)=ia (jh l G i) (l.getD i default):=rfl
  rw [←hx,←hs] at Ci
  by_cases cx:k9 l G i=0
  ·rw [cx] at Ci
   refine aW<|zS<|zB 1<|zP 3 [yH [(0,{k:=i}),(1,yV (AV.agg (aI (l.getD i default))))],yH [(2,{av:=some (AV.bk [AV.agg (bo (jh l G (i+1))),ai 0]),b:=false})],{}] [.aa [32,7,9,22,20,19,16,6,4,2,0,1,21] [6,9,4,2]] [yR (↑i:Int),yO (i*17<(ae aI l).length),yu aI l i 0 17,yR 17,yL 17 17,yI Ci,yL 5 5]<|zF 32<|zK<|aM<|ak<|zX (yH [(0,yV (ai ((↑i:Int)+1)))]) [yN ((↑i:Int)+1)] (aH (i+1) ⟨ah,by show (if _ then _ else _)=_;rw [if_neg ah,cx]⟩ ah (zW [.aa [20,19,16,6,4,2,0,1,21] [4,2,6]]))
  ·have k2:ff (k9 l G) (i+1)=k9 l G i:=by show (if _ then _ else _)=_;rw [if_neg ah]
   have k3:=jB cx k2 l.length cX
   rw [k3,if_neg cx]
   refine aW<|zS<|zB 1<|zP 3 [yH [(0,{k:=i}),(1,yV (AV.agg (aI (l.getD i default))))],yH [(2,{av:=some (AV.bk [AV.agg (bo (jh l G (i+1))),ai (k9 l G i)]),b:=false})],yH [(1,yV (ao true))]] [.aa [32,7,9,22,20,19,16,6,4,2,0,1,21] [6,9,4,2]] [yR (↑i:Int),yO (i*17<(ae aI l).length),yu aI l i 0 17,yR 17,yL 17 17,yI Ci,yL 5 5,yB (ao (k9 l G i != (0:Int))=ao true) (by simp [cx])]<|zT 32<|zP 1 [{}] [.aa [5,32,7,9,22,20,19,16,6,4,2,0,1,21] [4,6,9,2]] [yL 5 5]<|zR<|bc<|aN<|df<|bc<|aN (bL)
 ·have ei:i=l.length:=ah
  subst ei
  rw [h0,if_pos rfl]
  refine zE 0<|aS<|aK<|bg<|ak<|zP 1 [{}] [.aa [5,22,20,19,16,6,4,2,0,1,21] [4,2,6]] [yL 5 5]<|zR (bL)
theorem lB (m:Mem) (l:List dP) (hm:m.name.length≤1000) (hl:l.length≤1000000) (hE:na l):bC Tryz.prog 34 [.agg (aG m),.sl 17 (ae aI l)] (.bk [.agg (lz m l),ai (iQ m l)]):=by
 have oJ:(ae aI l).length=l.length*17:=aE (e:=17) (fun _=>rfl) ..
 have hn:=ui m hm
 by_cases c:eY m=0
 case neg =>
  have ce:iQ m l=eY m:=if_pos c
  have cc:lz m l=BD:=if_neg ah
  rw [cc,ce]
  refine zO Tryz.func34 38<|zP 2 [{},yH [(1,{av:=some (AV.bk [AV.agg [ai ((bH m).aA),aw ((bH m).head),ai ((bH m).br),AV.sl 4 (ae aG (bH m).al),AV.own 7 (ae a_ (bH m).aL)],ai (eY m)]),b:=false})]] [.aa [7,6,5,4,2,0,1] [6,501011,4,2]] [yI hn,yL 5 5]<|zS<|zq<|zB 0 (zL (fun (i:Nat)=>(⟨[(6,AV.addr 6 0),(5,ai 0),(4,AV.addr 4 0),(2,AV.addr 2 0),(0,AV.agg (aG m)),(1,AV.sl 17 (ae aI l)),(8,ai i),(7,ai (eY m))],[(6,⟨1,false,true,[ai ((bH m).aA),aw ((bH m).head),ai ((bH m).br),AV.sl 4 (ae aG (bH m).al),AV.ref 501011]⟩),(4,⟨1,false,true,[ai 0,cN,ai 0,AV.nil,AV.nil]⟩),(2,⟨1,false,true,List.map (aB 6) (List.map (aB 501011) (List.map (aB 4) (List.map (aB 2) (aG m))))⟩),(501011,⟨7,true,false,ae a_ (bH m).aL⟩)]⟩:AS)) (fun i=>(i=0)) (fun i=>0) (0) ?_ (zW [.aa [6,5,4,2,0,1,8,7] [6,4,2,501011]]) ?_)
  ·rfl
  rintro i rfl
  by_cases hz:0<l.length
  ·skip
   refine zS<|zP 1 [yH [(2,{k:=l.length}),(6,yV (ao false))]] [.aa [21,6,5,4,2,0,1,8,7] [6,4,2,501011]] ([yI oJ]++yM 2 (yT ((↑(0:Nat):Int)<(↑l.length:Int)))++ [yB (ao (eY m == (0:Int))=ao false) (by simp [c]),yT ((↑(0:Nat):Int)<(↑l.length:Int))])<|zF 21<|zE 0<|aS<|aK<|bg<|ak<|zS<|zQ 1 [yH [(1,yV (ao true))]] [yB (ao (eY m != (0:Int))=ao true) (by simp [c])]<|zT 34<|zP 1 [{}] [.aa [5,34,21,6,4,2,0,1,8,7] [4,6,2,501011]] [yL 5 5]<|dd (bL)
  ·skip
   refine zS<|zP 1 [yH ([(2,{k:=l.length}),(7,{b:=false})]++yg [5,6])] [.aa [21,6,5,4,2,0,1,8,7] [6,4,2,501011]] ([yI oJ]++yM 3 (yF ((↑(0:Nat):Int)<(↑l.length:Int))))<|zF 21<|zE 0<|aS<|aK<|bg<|ak<|zS<|zQ 1 [yH [(1,yV (ao true))]] [yB (ao (eY m != (0:Int))=ao true) (by simp [c])]<|zT 34<|zP 1 [{}] [.aa [5,34,21,6,4,2,0,1,8,7] [4,6,2,501011]] [yL 5 5]<|dd (bL)
 have hB:=(CV c).1
 rw [c] at hn
 have ce:iQ m l=ff (k9 l (bH m)) l.length:=if_neg (fun q=>q c)
 unfold lz
 rw [ce]
 generalize bH m=G at *
 refine zO Tryz.func34 38<|zP 2 [{},yH [(1,{av:=some (AV.bk [AV.agg [ai G.aA,aw G.head,ai G.br,AV.sl 4 (ae aG G.al),AV.own 7 (ae a_ G.aL)],ai 0]),b:=false})]] [.aa [7,6,5,4,2,0,1] [6,501011,4,2]] [yI hn,yL 5 5]<|zS<|zq<|zB 0<|bf.r9 [.gq 501011] bt (zL (fun (i:Nat)=>(⟨[(6,AV.addr 6 0),(5,ai 0),(4,AV.addr 4 0),(2,AV.addr 2 0),(0,AV.agg (aG m)),(1,AV.sl 17 (ae aI l)),(8,ai i),(7,ai (ff (k9 l G) i))],[(4,⟨1,false,true,[ai 0,cN,ai 0,AV.nil,AV.nil]⟩),(2,⟨1,false,true,List.map (kB 501011 (Row.mk 7 true false (ae a_ G.aL))) (List.map (aB 6) (List.map (aB 501011) (List.map (aB 4) (List.map (aB 2) (aG m)))))⟩),(6,⟨1,false,true,bo (jh l G i)⟩)]⟩:AS)) (fun i=>(i≤l.length)) (fun i=>(l.length-i)) (0) ?_ (zW [.aa [6,5,4,2,0,1,8,7] [4,2,6]]) ?_)
 ·omega
 intro i hi
 have S6:=xP (l:=l) hB i
 by_cases c0:ff (k9 l G) i=0
 case neg =>
  have k3:=jB (m:=i) c0 rfl l.length hi
  rw [k3,if_neg c0]
  by_cases hz:i<l.length
  ·skip
   refine zS<|zP 1 [yH [(2,{k:=l.length}),(6,yV (ao false))]] [.aa [21,6,5,4,2,0,1,8,7] [4,2,6]] ([yI oJ]++yM 2 (yT ((↑i:Int)<(↑l.length:Int)))++ [yB (ao (ff (k9 l G) i == (0:Int))=ao false) (by simp [c0]),yT ((↑i:Int)<(↑l.length:Int))])<|zF 21<|zE 0<|aS<|aK<|bg<|ak<|zS<|zQ 1 [yH [(1,yV (ao true))]] [yB (ao (ff (k9 l G) i != (0:Int))=ao true) (by simp [c0])]<|zT 34<|zP 1 [{}] [.aa [5,34,21,6,4,2,0,1,8,7] [4,2,6]] [yL 5 5]<|dd (bL)
  ·skip
   refine zS<|zP 1 [yH ([(2,{k:=l.length}),(7,{b:=false})]++yg [5,6])] [.aa [21,6,5,4,2,0,1,8,7] [4,2,6]] ([yI oJ]++yM 3 (yF ((↑i:Int)<(↑l.length:Int))))<|zF 21<|zE 0<|aS<|aK<|bg<|ak<|zS<|zQ 1 [yH [(1,yV (ao true))]] [yB (ao (ff (k9 l G) i != (0:Int))=ao true) (by simp [c0])]<|zT 34<|zP 1 [{}] [.aa [5,34,21,6,4,2,0,1,8,7] [4,2,6]] [yL 5 5]<|dd (bL)
 rw [c0]
 by_cases cX:i<l.length
 ·have gh:=ox cX
  obtain ⟨b1,b2⟩:=hE.at_ cX
  have Ci:=p9 (jh l G i) (l.getD i default) S6 b1 ah (jK _ b1)
  have hx:k9 l G i=fD (jh l G i) (l.getD i default):=rfl
  have hs:jh l G (i+1)=ia (jh l G i) (l.getD i default):=rfl
  rw [←hx,←hs] at Ci
  have k2:ff (k9 l G) (i+1)=k9 l G i:=by show (if _ then _ else _)=_;rw [if_neg ah]
  refine zS<|zP 1 [yH [(2,{k:=l.length})]] [.aa [21,6,5,4,2,0,1,8,7] [4,2,6]] ([yI oJ]++yM 3 (yT ((↑i:Int)<(↑l.length:Int))))<|dm 21 ((0:Int) == (0:Int)) eg<|aW<|zS<|zB 1<|wz 10 [9] [(3,{k:=i}),(4,yV (AV.agg (aI (l.getD i default)))),(5,{av:=some (AV.bk [AV.agg (bo (jh l G (i+1))),ai (k9 l G i)]),b:=false})] [yR (↑i:Int),yO (i*17<(ae aI l).length),yu aI l i 0 17,yR 17,yI Ci,yL 5 5,yR (ai (k9 l G i))]<|aM<|ak<|zX (yH [(1,yV (ai ((↑i:Int)+1)))]) [yN ((↑i:Int)+1)] (aH (i+1) (by assumption) ah (eu [.aa [6,5,4,2,0,1,8,7] [4,2,6]] [7] [] [yB (ai (k9 l G i)=ai (ff (k9 l G) (i+1))) (by rw [k2])]))
 ·have ei:i=l.length:=ah
  subst ei
  rw [c0,if_pos rfl]
  refine zS<|zP 1 [yH ([(2,{k:=l.length}),(7,{b:=false})]++yg [5,6])] [.aa [21,6,5,4,2,0,1,8,7] [4,2,6]] ([yI oJ]++yM 3 (yF ((↑l.length:Int)<(↑l.length:Int))))<|zF 21<|zE 0<|aS<|aK<|bg<|ak<|zS<|zq<|zF 34<|aW<|zP 1 [{}] [.aa [5,34,21,6,4,2,0,1,8,7] [4,2,6]] [yL 5 5]<|zR (bL)
def vQ:List dP->List dP->Nat
  | x::a,y::b=>if bN x=bN y then vQ a b+1 else 0
  | _,_=>0
def Rp (a b:List dP) (k:Nat):Prop:=bN (a.getD k default)=bN (b.getD k default)
theorem pK:∀ {a b:List dP} {k:Nat},k≤a.length->k≤b.length->(∀j,j<k->Rp a b j)->(k<a.length->k<b.length-> ¬Rp a b k)->vQ a b=k
  | [],_,k,h1,_,_,_=>by
    have:k=0:=by simpa using h1
    subst this;rfl
  | _::_,[],k,_,h2,_,_=>by
    have:k=0:=by simpa using h2
    subst this;rfl
  | x::a,y::b,k,h1,h2,h3,h4=>by
    unfold vQ
    cases k with
    | zero=>exact if_neg (h4 (Nat.succ_pos _) (Nat.succ_pos _))
    | succ k =>
      refine (if_pos (h3 0 (Nat.succ_pos _))).trans ?_
      rw [pK (a:=a) (b:=b) (k:=k) (by simpa using h1) (by simpa using h2) (fun j hj=>h3 (j+1) ah) (fun q1 q2=>h4 (by simpa using q1) (by simpa using q2))]
def lb (V W:List gb):List (List UInt8):=(V.filter fun v=>lL W v.name).map gb.name
theorem xm (V W:List gb) {i:Nat} (h:i<V.length):lb (V.take (i+1)) W=lb (V.take i) W++if lL W (V.getD i default).name=true then [(V.getD i default).name] else []:=by
  unfold lb
  rw [List.take_add_one,List.getD_eq_getElem?_getD,List.getElem?_eq_getElem h]
  simp only [Option.toList,Option.getD,List.filter_append,List.map_append]
  congr 1
  by_cases c:lL W V[i].name=true
  · rw [if_pos c];simp [c]
  · rw [if_neg c];simp [c]
theorem vd (V W:List gb):(lb V W).length≤V.length:=by unfold lb;rw [List.length_map];exact List.length_filter_le ..
def yh (m:Mem) (a b:List dP):Int:=if iQ m a≠0 then iQ m a else iQ m b
def yf (m:Mem) (a b:List dP):Nat:=if yh m a b=0 then vQ a b else 0
def pt (m:Mem) (a b:List dP):List (List UInt8):=if yh m a b=0∧vQ a b<a.length∧vQ a b<b.length then lb (a.getD (vQ a b) default).aq (b.getD (vQ a b) default).aq else []
theorem mR {l:List dP} {i:Nat} (h:i<l.length):(ae aI l)[i*17+16]?=some (.sl 4 (ae aU (l.getD i default).aq)):=mS (f:=aI) (e:=17) (k:=i) (j:=16) (fun _=>rfl) h rfl
theorem L1 (a b:List UInt8) (ha:a.length≤1000000) (hb:b.length≤1000000):bC Tryz.prog 65 [.sl 1 (ag a),.sl 1 (ag b)] (ao (a == b)):=by
  refine zO Tryz.func65 10<|zP 2 [{},yH [(1,yV (cQ a)),(3,yV (cQ b)),(4,yV (ao (a == b)))]] [.aa [4,0,1] []] [yR (ag a),yR (ag b),yI (eU a b)]<|zR (bL)
theorem Cn (x v:gb):bC Tryz.prog 66 [.agg (aU x),.ptr (aU v) 0] (ao (x.name == v.name)):=by
  refine zO Tryz.func66 9<|zP 2 [{},yH [(4,yV (ao (x.name == v.name)))]] [.aa [3,2,0,1] [2]] [yI (eU x.name v.name)]<|zR (bL)
theorem Co (W:List gb) (v:gb) (vM:W.length≤1000000):bC Tryz.prog 67 [.sl 4 (ae aU W),.kX 66 [.ptr (aU v) 0]] (ao (lL W v.name)):=by
  have hl:(ae aU W).length=W.length*4:=aE (e:=4) (fun _=>rfl) ..
  obtain ⟨n,hn,P7⟩:∃n:Int,bC Tryz.prog 113 [.sl 4 (ae aU W),.kX 66 [.ptr (aU v) 0]] (ai n)∧decide (n≥0)=lL W v.name:=by
    refine ⟨if lL W v.name=true then ((W.findIdx fun x=>x.name == v.name:Nat):Int) else -1,?_,?_⟩
    case refine_2 =>
      by_cases c:lL W v.name=true
      · rw [if_pos c,c];exact decide_eq_true ah
      · rw [if_neg c]
        have c2:lL W v.name=false:=by simpa using c
        rw [c2];exact decide_eq_false ah
    case refine_1 =>
      refine zO Tryz.func113 19<|zq<|zS<|zQ 1 [yH [(1,{k:=W.length})]] [yI hl]<|zB 0 (zL (fun (i:Nat)=>(⟨[(7,ai (↑W.length:Int)),(0,AV.sl 4 (ae aU W)),(1,AV.kX 66 [AV.ptr (aU v) 0]),(8,ai i)],[]⟩:AS)) (fun i=>(i≤W.length∧ ∀j,j<i->(W.getD j default).name≠v.name)) (fun i=>(W.length-i)) (0) ?_ (zW [.aa [7,0,1,8] []]) ?_)
      · exact ⟨ah,ah⟩
      rintro i ⟨hi,fM⟩
      refine zq<|zS (zD 9 ((↑i:Int)<(↑W.length:Int)) (fun g=>?_) (fun g=>?_))
      · have cX:i<W.length:=ah
        have hc:=Cn (W.getD i default) v
        have gh:=jt cX
        by_cases e:(W.getD i default).name=v.name
        · have hd:=zr cX e
          have hf:W.findIdx (fun x=>x.name == v.name)=i:=by
            rw [List.findIdx_eq cX]
            rw [List.getD_eq_getElem?_getD,List.getElem?_eq_getElem cX] at e
            refine ⟨by simpa using e,fun j hj=>?_⟩
            have:=fM j hj
            rw [List.getD_eq_getElem?_getD,List.getElem?_eq_getElem ah] at this
            simpa using this
          rw [if_pos hd,hf]
          refine aW<|zS<|zB 1<|zP 2 [{},yH [(3,{k:=i}),(4,yV (AV.agg (aU (W.getD i default)))),(5,yV (ao ((W.getD i default).name == v.name)))]] [.aa [16,5,9,7,0,1,8] []] [yR (↑i:Int),yO (i*4<(ae aU W).length),yu aU W i 0 4,yR 4,yI hc]<|dm 16 ((W.getD i default).name == v.name) (by simp_all)<|zq<|zR<|bc<|aN<|df<|bc<|aN (bL)
        · skip
          refine aW<|zS<|zB 1<|zP 2 [{},yH [(3,{k:=i}),(4,yV (AV.agg (aU (W.getD i default)))),(5,yV (ao ((W.getD i default).name == v.name)))]] [.aa [16,5,9,7,0,1,8] []] [yR (↑i:Int),yO (i*4<(ae aU W).length),yu aU W i 0 4,yR 4,yI hc]<|bj 16 ((W.getD i default).name == v.name) (by simp_all)<|zK<|aM<|ak<|zX (yH [(0,yV (ai ((↑i:Int)+1)))]) [yN ((↑i:Int)+1)] (aH (i+1) ⟨ah,fun j hj=>by by_cases e2:j=i;(subst e2;exact e);exact fM j ah⟩ ah (zW [.aa [7,0,1,8] []]))
      · have hd:=zp (l:=W) (n:=v.name) (fun j hj=>fM j ah)
        rw [if_neg (by rw [hd];decide)]
        refine zE 0<|aS<|aK<|bg<|ak<|zq<|zR (bL)
  refine zO Tryz.func67 9<|zP 2 [{},yH [(2,yV (ai n))]] [.aa [4,0,1] []] [yI hn]<|zR (zV [yB (Value.bool (decide (n≥0))=Value.bool (lL W v.name)) (by rw [P7])])
theorem FE (W:List gb) (n:List UInt8) (vM:W.length≤1000000):bC Tryz.prog 68 [.sl 4 (ae aU W),cQ n] (ao (lL W n)):=by
  have hl:(ae aU W).length=W.length*4:=aE (e:=4) (fun _=>rfl) ..
  refine zO Tryz.func68 19<|zq<|zS<|zq<|zB 0 (zL (fun (i:Nat)=>(⟨[(0,AV.sl 4 (ae aU W)),(1,cQ n),(5,ai i)],[]⟩:AS)) (fun i=>(i≤W.length∧ ∀j,j<i->(W.getD j default).name≠n)) (fun i=>(W.length-i)) (0) ?_ (zW [.aa [0,1,5] []]) ?_)
  · exact ⟨ah,ah⟩
  rintro i ⟨hi,fM⟩
  refine zS<|zP 1 [yH [(2,{k:=W.length})]] [.aa [9,0,1,5] []] [yI hl] (zD 9 ((↑i:Int)<(↑W.length:Int)) (fun g=>?_) (fun g=>?_))
  · have cX:i<W.length:=ah
    by_cases e:(W.getD i default).name=n
    · have hd:=zr cX e
      refine aW<|zS<|zB 1<|zP 1 [yH [(2,{k:=i}),(4,yV (cQ (W.getD i default).name)),(6,yV (ao ((W.getD i default).name == n)))]] [.aa [18,9,0,1,5] []] [yR (↑i:Int),yO (i*4<(ae aU W).length),yA aU W i 0,yI (eU ((W.getD i default).name) n)]<|dm 18 ((W.getD i default).name == n) (by simp_all)<|zq<|zR<|bc<|aN<|df<|bc<|aN (zV [yB (Value.bool true=Value.bool (lL W n)) (by rw [hd])])
    · skip
      refine aW<|zS<|zB 1<|zP 1 [yH [(2,{k:=i}),(4,yV (cQ (W.getD i default).name)),(6,yV (ao ((W.getD i default).name == n)))]] [.aa [18,9,0,1,5] []] [yR (↑i:Int),yO (i*4<(ae aU W).length),yA aU W i 0,yI (eU ((W.getD i default).name) n)]<|bj 18 ((W.getD i default).name == n) (by simp_all)<|zK<|aM<|ak<|zX (yH [(1,yV (ai ((↑i:Int)+1)))]) [yN ((↑i:Int)+1)] (aH (i+1) ⟨ah,fun j hj=>by by_cases e2:j=i;(subst e2;exact e);exact fM j ah⟩ ah (zW [.aa [0,1,5] []]))
  · have hd:=zp (l:=W) (n:=n) (fun j hj=>fM j ah)
    refine zE 0<|aS<|aK<|bg<|ak<|zq<|zR (zV [yB (Value.bool false=Value.bool (lL W n)) (by rw [hd])])
theorem Fc (e:dP):(bN e).length≤500000:=by
  by_cases c:dH e=0
  · exact qq e c
  · rw [show bN e= [] from if_neg c];exact Nat.zero_le _
end Go.Proofs.YtjgbhhnghedgdaaGreatDoor
