import Derived.Test.YtjgbhhnghedgdaaGreatDoorZvGrK2
set_option linter.all false
namespace Go.Proofs.YtjgbhhnghedgdaaGreatDoor
open Go.RowKit
set_option maxRecDepth 100000
set_option maxHeartbeats 4000000
theorem EM {l:List ic} {n:List UInt8}:∀ {p:Nat},p≤l.length->(∀j,j<p->Iy (l.getD j default).name n=true)->(p<l.length->Iy (l.getD p default).name n=false)->va l n=p:=by
 induction l with
 | nil =>
  intro p hp _ _
  have:p=0:=by simpa using hp
  subst this
  rfl
 | cons v l ih =>
  intro p hp h1 h2
  unfold va
  cases p with
  | zero =>
   have:=h2 (by simp)
   rw [List.takeWhile_cons_of_neg (by simpa using this)];rfl
  | succ p =>
   have h0:=h1 0 ag
   rw [List.takeWhile_cons_of_pos (by simpa using h0)]
   exact congrArg (· +1) (ih (p:=p) (by simpa using hp) (fun j hj=>h1 (j+1) ag) (fun q=>h2 (by simpa using q)))
def Cz (e:fC) (n:List UInt8) (seed:UInt64) (h leaf:Int):List AV:=if iB e n h leaf=0 then JW e (lA e.ak ⟨n,np h leaf,mN seed h leaf (cJ e),mM seed h leaf⟩) else ij
theorem Hy (e:fC) (n:List UInt8) (seed:UInt64) (h leaf:Int) (hB:nB e) (hv:e.ak.length≤1000) (SC:∀v∈e.ak,v.cM.length≤1000∧v.path.length≤1000):bG Tryz.prog 25 [.agg (bf e),cV n,aw seed,ai h,ai leaf] (.cw [.agg (Cz e n seed h leaf),ai (iB e n h leaf)]):=by
 have l0:(af aL e.ak).length=e.ak.length*4:=aE (e:=4) (fun _=>rfl) ..
 have wZ:=qd e hB
 by_cases cb:fa e=0
 case neg =>
  have ce:iB e n h leaf=fa e:=if_pos cb
  have cf:Cz e n seed h leaf=ij:=if_neg (by rw [ce];exact cb)
  rw [if_neg cb] at wZ
  rw [cf,ce]
  refine zO Tryz.func25 114<|zP 2 [{},yH [(1,yC wZ)]] [.aa [13,12,11,10,5,0,1,2,3,4] [10,5]] [yI wZ]<|zS<|zQ 1 [yH [(1,yV (ao true))]] [yB (ao (fa e != (0:Int))=ao true) (by simp [cb])]<|zT 27<|zP 1 [{}] [.aa [11,27,13,12,10,5,0,1,2,3,4] [10,5]] [yL 17 17]<|dC (bP)
 rw [if_pos cb,cb] at wZ
 refine zO Tryz.func25 114<|zP 2 [{},yH [(1,yC wZ)]] [.aa [13,12,11,10,5,0,1,2,3,4] [10,5]] [yI wZ]<|zS<|zq<|zF 27<|a_<|zS<|zP 1 [yH [(2,{k:=e.ak.length})]] [.aa [33,32,31,27,13,12,11,10,5,0,1,2,3,4] [10,5]] [yI l0]<|zB 0 (zL (fun (i:Nat)=>(⟨[(32,ai (↑e.ak.length:Int)),(31,AV.sl 4 (af aL e.ak)),(27,ao ((0:Int) != (0:Int))),(13,ai 0),(12,aw (cJ e)),(10,AV.addr 10 0),(5,AV.addr 5 0),(0,AV.agg (bf e)),(1,cV n),(2,aw seed),(3,ai h),(4,ai leaf),(33,ai i)],[(5,⟨1,false,true,bf e⟩),(10,⟨1,false,true,ij⟩)]⟩:AS)) (fun i=>(i≤e.ak.length∧ ∀j,j<i->(e.ak.getD j default).name≠n)) (fun i=>(e.ak.length-i)) (0) ?_ (zW [.aa [32,31,27,13,12,10,5,0,1,2,3,4,33] [5,10]]) ?_)
 ·exact ⟨ag,ag⟩
 rintro i ⟨hi,gr⟩
 refine zq<|zS (zD 34 ((↑i:Int)<(↑e.ak.length:Int)) (fun q=>?_) (fun q=>?_))
 ·have dI:i<e.ak.length:=ag
  have gM:=i4 dI
  by_cases cn:(e.ak.getD i default).name=n
  ·have hd:=Fx dI cn
   have ce:iB e n h leaf=10:=by unfold iB;rw [if_neg (fun q=>q cb),if_pos hd]
   have cf:Cz e n seed h leaf=ij:=if_neg ag
   rw [cf,ce]
   refine a_<|zS<|zB 1<|zP 2 [yH [(0,{k:=i}),(1,yV (AV.agg (aL (e.ak.getD i default))))],yH [(3,yV (ao ((e.ak.getD i default).name == n)))]] [.aa [40,15,34,32,31,27,13,12,10,5,0,1,2,3,4,33] [15,5,10]] [yR (↑i:Int),yO (i*4<(af aL e.ak).length),yu aL e.ak i 0 4,yR 4,yL 4 4,yI (fF ((e.ak.getD i default).name) n)]<|dB 40 ((e.ak.getD i default).name == n) (by simp_all)<|zP 1 [{}] [.aa [11,40,15,34,32,31,27,13,12,10,5,0,1,2,3,4,33] [10,15,5]] [yL 17 17]<|zR<|bc<|aK<|dN<|bc<|aK (bP)
  ·skip
   refine a_<|zS<|zB 1<|zP 2 [yH [(0,{k:=i}),(1,yV (AV.agg (aL (e.ak.getD i default))))],yH [(3,yV (ao ((e.ak.getD i default).name == n)))]] [.aa [40,15,34,32,31,27,13,12,10,5,0,1,2,3,4,33] [15,5,10]] [yR (↑i:Int),yO (i*4<(af aL e.ak).length),yu aL e.ak i 0 4,yR 4,yL 4 4,yI (fF ((e.ak.getD i default).name) n)]<|bk 40 ((e.ak.getD i default).name == n) (by simp_all)<|zK<|aJ<|al<|zX (yH [(0,yV (ai ((↑i:Int)+1)))]) [yN ((↑i:Int)+1)] (aH (i+1) ⟨ag,fun j hj=>by by_cases e2:j=i;(subst e2;exact cn);exact gr j ag⟩ ag (zW [.aa [32,31,27,13,12,10,5,0,1,2,3,4,33] [5,10]]))
 have ei:i=e.ak.length:=ag
 subst ei
 have hd:=Fw gr
 have hq:iB e n h leaf=wS h leaf:=by unfold iB;rw [if_neg (fun q=>q cb),if_neg (by rw [hd];decide)]
 by_cases cs:wS h leaf=0
 case neg =>
  have cf:Cz e n seed h leaf=ij:=if_neg (by rw [hq];exact cs)
  rw [cf,hq]
  refine zE 0<|a6<|aM<|bm<|al<|zP 1 [yH [(4,yD (mg (seed) (h) (leaf) (cJ e)))]] [.aa [13,16,34,32,31,27,12,10,5,0,1,2,3,4,33] [16,301048,5,10]] [yI (mg seed h leaf (cJ e)),yL 3 3]<|zS<|zQ 1 [yH [(1,yV (ao true))]] [yB (ao (wS h leaf != (0:Int))=ao true) (by simp [cs])]<|zT 52<|zP 1 [{}] [.aa [11,52,13,16,34,32,31,27,12,10,5,0,1,2,3,4,33] [10,16,301048,5]] [yL 17 17]<|dC (bP)
 have cr:Cz e n seed h leaf=JW e (lA e.ak ⟨n,np h leaf,mN seed h leaf (cJ e),mM seed h leaf⟩):=if_pos (by rw [hq];exact cs)
 rw [cr,hq,cs]
 refine zE 0<|a6<|aM<|bm<|al<|zP 1 [yH [(4,yD (mg (seed) (h) (leaf) (cJ e)))]] [.aa [13,16,34,32,31,27,12,10,5,0,1,2,3,4,33] [16,301048,5,10]] [yI (mg seed h leaf (cJ e)),yL 3 3]<|zS<|zQ 1 [yH [(1,yV (ao false))]] [yB (ao (wS h leaf != (0:Int))=ao false) (by simp [cs])]<|zF 52<|a_<|zq<|bg.rz [.aa [1,5,10,16,17] [16,5,10,301048],.gR 301048] bu<|bg.at_ ⟨[(1,cV n),(5,.addr 5 0),(10,.addr 10 0),(16,.addr 16 0),(17,ai 0)],[(16,⟨1,false,true,[ai (np h leaf),.sl 1 (ah (mN seed h leaf (cJ e))),.sl 1 (ah (mM seed h leaf))]⟩),(5,⟨1,false,true,bf e⟩),(10,⟨1,false,true,ij⟩)]⟩ bu ?_
 obtain ⟨v,Mz⟩:∃v:ic,v=⟨n,np h leaf,mN seed h leaf (cJ e),mM seed h leaf⟩:=⟨_,rfl⟩
 have RB:v.name=n:=by rw [Mz]
 have v1:np h leaf=v.leaf:=by rw [Mz]
 have v2:mN seed h leaf (cJ e)=v.cM:=by rw [Mz]
 have v3:mM seed h leaf=v.path:=by rw [Mz]
 rw [←Mz,v1,v2,v3]
 clear Mz v1 v2 v3
 refine bg.ob (fun (p:Nat)=>(⟨[(1,cV n),(5,AV.addr 5 0),(10,AV.addr 10 0),(16,AV.addr 16 0),(17,ai p)],[(5,⟨1,false,true,bf e⟩),(10,⟨1,false,true,ij⟩),(16,⟨1,false,true,[ai v.leaf,AV.sl 1 (ah v.cM),AV.sl 1 (ah v.path)]⟩)]⟩:AS)) (fun p=>(p=va e.ak n∧p≤e.ak.length)) bu ?_ ?_
 ·skip
  refine zB 2 (zL (fun (p:Nat)=>(⟨[(1,cV n),(5,AV.addr 5 0),(10,AV.addr 10 0),(16,AV.addr 16 0),(17,ai p)],[(5,⟨1,false,true,bf e⟩),(10,⟨1,false,true,ij⟩),(16,⟨1,false,true,[ai v.leaf,AV.sl 1 (ah v.cM),AV.sl 1 (ah v.path)]⟩)]⟩:AS)) (fun p=>(p≤e.ak.length∧ ∀j,j<p->Iy (e.ak.getD j default).name n=true)) (fun p=>(e.ak.length-p)) (0) ?_ (zW [.aa [1,5,10,16,17] [5,10,16]]) ?_)
  ·exact ⟨ag,ag⟩
  rintro p ⟨hp,cW⟩
  by_cases c1:p<e.ak.length
  ·have gM:=i4 c1
   by_cases c2:Iy (e.ak.getD p default).name n=true
   ·skip
    refine zS<|zP 1 [yH [(3,{k:=e.ak.length}),(9,{k:=p}),(11,yV (cV (e.ak.getD p default).name))]] [.aa [69,1,5,10,16,17] [5,10,16]] ([yI l0]++yM 4 (yT ((↑p:Int)<(↑e.ak.length:Int)))++ [yR (↑p:Int),yO (p*4<(af aL e.ak).length)]++yM 2 (yT ((↑p:Int)<(↑e.ak.length:Int)))++ [yA aL e.ak p 0]++yM 3 (yT ((↑p:Int)<(↑e.ak.length:Int))))<|dB 69 (Op.bytesLess (ByteArray.mk (e.ak.getD p default).name.toArray).toList (ByteArray.mk n.toArray).toList) (by assumption)<|a_<|zB 3<|zX (yH [(1,yV (ai ((↑p:Int)+1)))]) [yN ((↑p:Int)+1)]<|aJ (aH (p+1) ⟨ag,fun j hj=>by by_cases e2:j=p;(subst e2;exact c2);exact cW j ag⟩ ag (zW [.aa [1,5,10,16,17] [5,10,16]]))
   ·have c3:Iy (e.ak.getD p default).name n=false:=by simpa using c2
    refine zS<|zP 1 [yH [(3,{k:=e.ak.length}),(9,{k:=p}),(11,yV (cV (e.ak.getD p default).name))]] [.aa [69,1,5,10,16,17] [5,10,16]] ([yI l0]++yM 4 (yT ((↑p:Int)<(↑e.ak.length:Int)))++ [yR (↑p:Int),yO (p*4<(af aL e.ak).length)]++yM 2 (yT ((↑p:Int)<(↑e.ak.length:Int)))++ [yA aL e.ak p 0]++yM 3 (yT ((↑p:Int)<(↑e.ak.length:Int))))<|bk 69 (Op.bytesLess (ByteArray.mk (e.ak.getD p default).name.toArray).toList (ByteArray.mk n.toArray).toList) (by assumption)<|zE 2<|a6<|aM<|bm<|al (⟨p,⟨(EM hp cW (fun _=>c3)).symm,hp⟩,(zW [.aa [1,5,10,16,17] [5,10,16]])⟩)
  ·skip
   refine zS<|zP 1 [yH ([(3,{k:=e.ak.length}),(14,{b:=false})]++yg [6,7,8,9,10,11,12,13])] [.aa [69,1,5,10,16,17] [5,10,16]] ([yI l0]++yM 9 (yF ((↑p:Int)<(↑e.ak.length:Int))))<|zF 69<|zE 2<|a6<|aM<|bm<|al (⟨p,⟨(EM hp cW (fun q=>absurd q c1)).symm,hp⟩,(zW [.aa [1,5,10,16,17] [5,10,16]])⟩)
 rintro p ⟨UN,nw⟩
 refine zP 1 [yH [(2,{k:=e.ak.length}),(3,yV (ai ((↑e.ak.length:Int)+1))),(4,{k:=0,m:=e.ak.length+1})]] [.aa [18,1,5,10,16,17] [76,5,10,16]] [yI l0,yN ((↑e.ak.length:Int)+1),yR (0:Int),yR ((↑e.ak.length:Int)+1),yO (0≤e.ak.length+1),yO (72*(e.ak.length+1)≤281474976710656),yB (e.ak.length+1≤maxLen) (by unfold maxLen;omega)]<|zS<|zQ 1 [yH [(2,{k:=e.ak.length})]] [yI l0]<|zB 4 (zL (fun (i:Nat)=>(⟨[(79,ai (↑e.ak.length:Int)),(78,AV.sl 4 (af aL e.ak)),(1,cV n),(5,AV.addr 5 0),(10,AV.addr 10 0),(16,AV.addr 16 0),(17,ai ↑p),(80,ai i),(18,AV.ref 76)],[(76,⟨4,true,false,af aL (e.ak.take i)⟩),(5,⟨1,false,true,bf e⟩),(10,⟨1,false,true,ij⟩),(16,⟨1,false,true,[ai v.leaf,.sl 1 (ah v.cM),.sl 1 (ah v.path)]⟩)]⟩:AS)) (fun i=>(i≤e.ak.length)) (fun i=>(e.ak.length-i)) (0) ?_ (zW [.aa [79,78,1,5,10,16,17,80,18] [76,5,10,16]]) ?_)
 ·omega
 intro i hi
 refine zq<|zS (zD 81 ((↑i:Int)<(↑e.ak.length:Int)) (fun q=>?_) (fun q=>?_))
 ·have dI:i<e.ak.length:=ag
  have gM:=i4 dI
  obtain ⟨b1,b2⟩:=SC (e.ak.getD i default) (by rw [List.getD_eq_getElem?_getD,List.getElem?_eq_getElem dI];exact List.getElem_mem dI)
  have dJ:e.ak.take (i+1)=e.ak.take i++ [e.ak.getD i default]:=by rw [List.take_add_one,List.getD_eq_getElem?_getD,List.getElem?_eq_getElem dI];rfl
  have k1:=mQ (e.ak.getD i default).cM ag
  have k2:=mQ (e.ak.getD i default).path ag
  have ua:(af aL (e.ak.take i)).length≤4000:=by rw [aE (e:=4) (fun _=>rfl),List.length_take];omega
  refine a_<|zS<|zB 5<|zP 3 [yH [(0,{k:=i}),(1,yV (AV.agg (aL (e.ak.getD i default))))],yH [(3,yC k1)],yH [(3,yC k2)]] [.aa [20,81,79,78,1,5,10,16,17,80,18] [20,93,87,76,5,10,16]] [yR (↑i:Int),yO (i*4<(af aL e.ak).length),yu aL e.ak i 0 4,yR 4,yL 4 4,yI k1,yB (kP (ah (e.ak.getD i default).cM)) (fE _),yL 3 4,yI k2,yB (kP (ah (e.ak.getD i default).path)) (fE _),yL 4 4]<|zX {} [yO (((af aL (List.take i e.ak)).length+4)*72≤562949953421312)]<|aJ<|al<|zX (yH [(0,yV (ai ((↑i:Int)+1)))]) [yN ((↑i:Int)+1)] (aH (i+1) (by assumption) ag (eS [.uX 99 76,.aa [79,78,1,5,10,16,17,80,18] [76,5,10,16]] [] [76,5] [yB (af aL (List.take i e.ak)++(aL (e.ak.getD i default))=af aL (List.take (i+1) e.ak)) (by rw [dJ];exact fR _ _),yB (List.map (aF 20) (bE 98 (Row.mk 1 false true (List.map (kv 99 76) (bE 76 (Row.mk 1 false true (List.map (aF 99) (bE 76 (Row.mk 1 false true (List.map (aF 98) (fN 93 (fN 87 (Row.mk 1 true false (ah (e.ak.getD i default).cM)) (Row.mk 1 true false (ah (e.ak.getD i default).path))) (fN 87 (Row.mk 1 true false (ah (e.ak.getD i default).cM)) (Row.mk 1 false true (List.map (aF 93) (List.map (aF 87) (List.map (aF 20) (bf e))))))).cells))).cells))).cells))).cells=bf e) bu]))
 have ei:i=e.ak.length:=ag
 subst ei
 rw [List.take_length]
 have xR:=oz e.dep (by have:=hB.dep.box;omega) (by have:=hB.dep.Cu;omega) (by have:=hB.dep.Q_;omega)
 by_cases c9:p=e.ak.length
 ·have Th:lA e.ak v=e.ak++ [v]:=by
   unfold lA
   rw [RB,←UN,c9,List.take_length,List.drop_length,List.append_nil]
  have hI:gn Tryz.prog 53 [.ref 5,ai p,.sl 4 [cV n,ai v.leaf,.sl 1 (ah v.cM),.sl 1 (ah v.path)]] [(5,⟨4,true,false,af aL e.ak⟩)] (.own 4 (af aL (e.ak++ [v]))) [(5,⟨4,true,false,af aL []⟩)]:=by
   have:=tf e.ak v ag
   rw [←c9] at this
   rw [←RB]
   exact this
  rw [Th]
  refine zE 4<|a6<|aM<|bm<|al<|zP 3 [yH [(6,yE [(76,5)] hI)],yH [(2,yD xR)],{}] [.aa [11,81,79,78,1,5,10,16,17,80] [10,5,500111,400111,300111,107,16]] [yI hI,yL 17 17,yI xR,yL 14 17,yL 17 17]<|zR (bP)
 ·have cW:p<e.ak.length:=ag
  have hW:e.ak.take p++ [v]++e.ak.drop p=lA e.ak v:=by
   unfold lA
   rw [RB,←UN]
  refine zE 4<|a6<|aM<|bm<|al<|bg.rz [.aa [1,5,10,16,17,18] [76,5,10,16]] bu<|zS (bg.Ik ⟨[(5,.addr 5 0),(10,.addr 10 0)],[(107,⟨4,true,false,af aL (lA e.ak v)⟩),(5,⟨1,false,true,[ai e.aC,aw e.prev,ai e.kind,cV e.name,ai e.kh,aw e.kr,ai e.bA,aw e.dep.bV,aw e.dep.peer,.sl 1 (aj e.dep.box),.sl 1 (af ay e.dep.ae),.sl 1 (ah e.dep.ax),ai e.dep.need,aw e.dep.target,aw e.bV,aw e.target,.ref 107]⟩),(10,⟨1,false,true,ij⟩)]⟩ bu ?_ (al ?_))
  ·refine dj.step 5 ⟨[(101,.ref 76),(102,ai p),(105,.agg [cV n,ai v.leaf,.sl 1 (ah v.cM),.sl 1 (ah v.path)]),(5,.addr 5 0),(10,.addr 10 0)],[(76,⟨4,true,false,af aL e.ak⟩),(5,⟨1,false,true,bf e⟩),(10,⟨1,false,true,ij⟩)]⟩ ?_ ?_
   ·refine mL [] [.aa [101,102,105,5,10] [76,5,10]] []
   refine dj.step 2 ⟨[(107,.ref 107),(5,.addr 5 0),(10,.addr 10 0)],[(107,⟨4,true,false,af aL (lA e.ak v)⟩),(5,⟨1,false,true,bf e⟩),(10,⟨1,false,true,ij⟩)]⟩ ?_ ?_
   ·rw [←hW]
    subst RB
    exact dj.insert 76 106 107 e.ak v p (.tmp 105) (.tmp 101) (.tmp 102) [.aa [107,5,10] [107,5,10]] cW ag rfl rfl rfl rfl rfl rfl bu bu bu bu bu bu bu bu bu bu bu
   refine mL [] [.aa [5,10] [107,5,10]] [yL 17 17]
  refine zP 2 [yH [(2,yD xR)],{}] [.aa [11,5,10] [10,5,500111,400111,300111,107]] [yI xR,yL 14 17,yL 17 17]<|zR (bP)
def ia (l:List Int) (k:Nat) (n:Int):Nat:=if k<l.length then eT (l.getD k 0) n else 0
def eg (l:List Int) (k:Nat):Nat:=if k<l.length then k+1 else k
theorem ET (l:List Int):bG Tryz.prog 13 [.sl 1 (au l)] (.box [.sl 1 (au l),ai 0]):=by
 refine zO Tryz.func13 6<|zP 2 [{},{}] [.aa [2,0] [5]] []<|zR (bP)
theorem dt (l:List Int) (k:Nat) (n:Int) (hk:k≤l.length) (hl:l.length≤9223372036854775807) (h1:1≤n) (h2:n≤9223372036854775807):gn Tryz.prog 24 [.addr 1000000000000 0,ai n] [(1000000000000,⟨1,false,true,[.sl 1 (au l),ai k]⟩)] (ai (ia l k n)) [(1000000000000,⟨1,false,true,[.sl 1 (au l),ai (eg l k)]⟩)]:=by
 by_cases h:k<l.length
 ·have e1:ia l k n=eT (l.getD k 0) n:=if_pos h
  have e2:eg l k=k+1:=if_pos h
  have ew:IntKind.i64.wrap ((k:Int)+1)=((k+1:Nat):Int):=by rw [IntKind.wrap_i64];omega
  have ev:IntKind.i64.wrap (((k+1:Nat):Int)-1)=(k:Int):=by rw [IntKind.wrap_i64];omega
  rw [e1,e2]
  refine nC Tryz.func24 35<|zq<|zS<|zP 1 [{hs:=[(8,{k:=l.length})],T:=9}] [.aa [14,4,0,1] [1000000000000]] [yI (iT l)]<|dF 14 ((↑k:Int)≥(↑l.length:Int))<|a_<|zP 2 [yH [(4,yV (ai (↑(k+1):Int)))],{hs:=[(8,yV (ai ↑k)),(9,{k:=k}),(10,yV (ai (l.getD k (0:Int)))),(12,yC (lI (l.getD k (0:Int)) (n) h1 h2))],T:=12}] [.aa [4,14,0,1] [1000000000000]] [yB (ai (IntKind.i64.wrap ((↑k:Int)+1))=ai (↑(k+1):Int)) (eN ag ag),yL 2 2,yI (yc ev),yR (↑k:Int),yB (k<(au l).length) (by simp only [iT];omega),yB ((au l)[k]?=some (ai (l.getD k (0:Int)))) (k_ ag),yI (lI (l.getD k (0:Int)) n h1 h2)]<|zR (zG [] [yR (Value.int .i64 (↑(eT (l.getD k (0:Int)) n):Int)),yR [AV.sl 1 (au l),ai (↑(k+1):Int)]])
 ·have e1:ia l k n=0:=if_neg h
  have e2:eg l k=k:=if_neg h
  rw [e1,e2]
  refine nC Tryz.func24 35<|zq<|zS<|zP 1 [{hs:=[(8,{k:=l.length})],T:=9}] [.aa [14,4,0,1] [1000000000000]] [yI (iT l)]<|iw 14 ((↑k:Int)≥(↑l.length:Int))<|zq<|dC (zG [] [yR (Value.int .i64 0),yR [AV.sl 1 (au l),ai ↑k]])
theorem dS {l:List Int} {k:Nat} (h:k≤l.length):eg l k≤l.length:=by unfold eg;split<;>omega
theorem lp (l:List Int) (k:Nat) {n:Int} (h:1≤n):(ia l k n:Int)<n:=by
 unfold ia
 split
 ·unfold eT
  have:=Int.emod_lt_of_pos (l.getD k 0%18446744073709551616) (ag:0<n)
  have:=Int.emod_nonneg (l.getD k 0%18446744073709551616) (ag:n≠0)
  omega
 ·omega
structure tR where
 cH:ig
 log:List fC
 nx:Nat->Int
def lr (c:tR):List AV:=[ai c.cH.aC,aw c.cH.head,ai c.cH.bA,.sl 4 (af aT c.cH.aq),.sl 7 (af bj c.cH.aU),.sl 17 (af bf c.log),ai (c.nx 0),ai (c.nx 1),ai (c.nx 2),ai (c.nx 3),ai (c.nx 4),ai (c.nx 5),ai (c.nx 6),ai (c.nx 7),ai (c.nx 8),ai (c.nx 9)]
def Bo (f:Nat->Int):List AV:=[ai (f 0),ai (f 1),ai (f 2),ai (f 3),ai (f 4),ai (f 5),ai (f 6),ai (f 7),ai (f 8),ai (f 9)]
def G5:tR:=⟨di (eK 0),[],fun _=>0⟩
theorem x7:bG Tryz.prog 15 [] (.agg (lr G5)):=by
 have hm:=f_ 0 ag
 have hn:=CR (eK 0) (Nat.le_of_ble_eq_true rfl)
 unfold G5
 generalize di (eK 0)=G at *
 refine zO Tryz.func15 10<|zP 3 [{},yH [(0,yC hm),(1,yD hn)],{}] [.aa [1,0] [0,1,501005]] [yI hm,yI hn,yL 5 5,yL 16 16]<|bg.rz [.gR 501005] bu<|bg.nL (bQ.Nx 0 [(5,17)] bu)<|zR (zV ([yR (Value.int .i64 G.aC),yR (Value.int .u64 (wv G.head)),yR (Value.int .i64 G.bA),yR (af aT G.aq),yR (af bj G.aU),yB ([]=af bf []) rfl]++yM 10 (yR (Value.int .i64 0))))
theorem Gh (l:List Int) (k:Nat) (hk:k≤l.length) (hl:l.length≤9223372036854775807):gn Tryz.prog 28 [.addr 1000000000000 0] [(1000000000000,⟨1,false,true,[.sl 1 (au l),ai k]⟩)] (ao (decide (k<l.length))) [(1000000000000,⟨1,false,true,[.sl 1 (au l),ai k]⟩)]:=by
 refine nC Tryz.func28 13<|zP 2 [{},{hs:=[(8,{k:=l.length})],T:=9}] [.aa [2,0] [1000000000000]] [yI (iT l)]<|zR (zG [] [yB (Value.bool (decide ((↑k:Int)<(↑l.length:Int)))=Value.bool (decide (k<l.length))) (by simp),yR [AV.sl 1 (au l),ai ↑k]])
def PM (c:tR) (j:Nat) (m:Nat):Prop:=(c.cH.aq.getD m default).name=(eK j).name∧c.nx j<16
instance (c:tR) (j m:Nat):Decidable (PM c j m):=inferInstanceAs (Decidable (_∧_))
def nW (c:tR) (j:Nat) (s:Nat×Nat):Nat->Nat×Nat
 | 0=>s
 | m+1=>if PM c j m then ((nW c j s m).1|||2^j,(nW c j s m).2+1) else nW c j s m
def lz (c:tR) (k:Nat):Nat->Nat×Nat
 | 0=>(0,0)
 | i+1=>if ((lz c k i).2:Int)<c.cH.bA then nW c (eT ((i:Int)+k) 10) (lz c k i) c.cH.aq.length else lz c k i
def Bi (c:tR) (k:Nat):Nat:=(lz c k 10).1
theorem PT (f:Nat->Int) {j:Nat} (h:j<10):(Bo f)[j]?=some (ai (f j)):=by
 rcases j with _|_|_|_|_|_|_|_|_|_|j<;>first|rfl|omega
theorem CW (c:tR) {j:Nat} (hj:j<10) {s:Nat×Nat} (hs:s.1<1024):∀m,(nW c j s m).1<1024∧(nW c j s m).2≤s.2+m
 | 0=>⟨hs,Nat.le_refl _⟩
 | m+1=>by
  have ih:=CW c hj hs m
  unfold nW
  split
  ·refine ⟨Nat.or_lt_two_pow (n:=10) ih.1 (Nat.pow_lt_pow_right (by decide) hj),?_⟩
   show _+1≤_
   omega
  ·exact ⟨ih.1,ag⟩
theorem yX (c:tR) (k:Nat):∀i,(lz c k i).1<1024∧(lz c k i).2≤i*c.cH.aq.length
 | 0=>⟨Nat.zero_lt_succ _,Nat.zero_le _⟩
 | i+1=>by
  have ih:=yX c k i
  unfold lz
  split
  ·have hj:=oN ((i:Int)+k) (n:=10) ag
   have:=CW c (j:=eT ((i:Int)+k) 10) ag ih.1 c.cH.aq.length
   refine ⟨this.1,Nat.le_trans this.2 ?_⟩
   rw [Nat.succ_mul];omega
  ·refine ⟨ih.1,Nat.le_trans ih.2 ?_⟩
   rw [Nat.succ_mul];omega
theorem xC (c:tR) (k:Nat) {i:Nat} (h:¬((lz c k i).2:Int)<c.cH.bA):∀d,lz c k (i+d)=lz c k i
 | 0=>rfl
 | d+1=>by
  have ih:=xC c k h d
  show (if ((lz c k (i+d)).2:Int)<c.cH.bA then _ else lz c k (i+d))=_
  rw [ih,if_neg h]
theorem OE (c:tR) {j:Nat} (h:j<10):(lr c)[j+6]?=some (ai (c.nx j)):=by
 rcases j with _|_|_|_|_|_|_|_|_|_|j<;>first|rfl|omega
theorem Nk {j:Nat} (h:j<10):IntKind.i64.wrap (1*2^min ((j:Nat):Int).toNat IntKind.i64.bits)=((2^j:Nat):Int):=by
 have key:∀j:Fin 10,IntKind.i64.wrap (1*2^min ((j.val:Nat):Int).toNat IntKind.i64.bits)=((2^j.val:Nat):Int):=by decide
 exact key ⟨j,h⟩
theorem Nu {a b:Nat} (ha:a<1024) (hb:b<1024):IntKind.i64.wrap ((BitVec.ofInt IntKind.i64.bits (a:Int)|||BitVec.ofInt IntKind.i64.bits (b:Int)).toNat:Nat)=((a|||b:Nat):Int):=by
 have cW:=Nat.or_lt_two_pow (n:=10) (x:=a) (y:=b) ha hb
 rw [BitVec.toNat_or,BitVec.toNat_ofInt,BitVec.toNat_ofInt,show ((a:Int)%((2^IntKind.i64.bits:Nat):Int)).toNat=a by show ((a:Int)%18446744073709551616).toNat=a;omega,show ((b:Int)%((2^IntKind.i64.bits:Nat):Int)).toNat=b by show ((b:Int)%18446744073709551616).toNat=b;omega,IntKind.wrap_i64]
 omega
theorem CV (c:tR) (k:Nat) (hk:k<10) (hm:c.cH.aq.length≤8):bG Tryz.prog 29 [.agg (lr c),ai k] (ai (Bi c k)):=by
 have nG:(af aT c.cH.aq).length=c.cH.aq.length*4:=aE (e:=4) (fun _=>rfl) ..
 refine zO Tryz.func29 59<|zQ 2 [{},{}] []<|zS<|zq<|zB 0 (zL (fun (i:Nat)=>(⟨[(4,ai 0),(2,AV.addr 2 0),(0,AV.agg [ai c.cH.aC,aw c.cH.head,ai c.cH.bA,AV.sl 4 (af aT c.cH.aq),AV.sl 7 (af bj c.cH.aU),AV.sl 17 (af bf c.log),ai (c.nx 0),ai (c.nx 1),ai (c.nx 2),ai (c.nx 3),ai (c.nx 4),ai (c.nx 5),ai (c.nx 6),ai (c.nx 7),ai (c.nx 8),ai (c.nx 9)]),(1,ai ↑k),(7,ai i),(5,ai (lz c k i).1),(6,ai (lz c k i).2)],[(2,⟨1,false,true,List.map (aF 2) (lr c)⟩)]⟩:AS)) (fun i=>(i≤10)) (fun i=>(10-i)) (0) ?_ (zW [.aa [4,2,0,1,7,5,6] [2]]) ?_)
 ·omega
 intro i hi
 have hb:=yX c k i
 have sd:i*c.cH.aq.length≤80:=Nat.mul_le_mul hi hm
 by_cases c1:i<10
 case neg =>
  have e:i=10:=ag
  subst e
  refine zS<|zP 1 [yH ([(8,{b:=false})]++yg [3,4,5,6,7])] [.aa [18,4,2,0,1,7,5,6] [2]] (yM 6 (yR false))<|zF 18<|zE 0<|a6<|aM<|bm<|al<|zP 1 [{}] [.aa [4,18,2,0,1,7,5,6] [2]] []<|zR (bP)
 by_cases c2:((lz c k i).2:Int)<c.cH.bA
 case neg =>
  have hs:=xC c k c2 (10-i)
  rw [show i+(10-i)=10 by omega] at hs
  refine zS<|zP 1 [{}] [.aa [18,4,2,0,1,7,5,6] [2]] (yM 6 (yT ((↑i:Int)<10)))<|dF 18 ((↑(lz c k i).snd:Int)<c.cH.bA)<|zE 0<|a6<|aM<|bm<|al<|zq<|zR (zV [yJ (↑(lz c k i).fst:Int) (↑(Bi c k):Int) (by unfold Bi;rw [hs])])
 obtain ⟨j,hj⟩:∃j,j=eT ((i:Int)+k) 10:=⟨_,rfl⟩
 have BJ:j<10:=by have:=oN ((i:Int)+k) (n:=10) ag;omega
 have dJ:lz c k (i+1)=nW c j (lz c k i) c.cH.aq.length:=by show (if _ then _ else _)=_;rw [if_pos c2,←hj]
 have ME:=OE c BJ
 have oT:=f_ j BJ
 have SA:IntKind.u64.wrap ((j:Nat):Int)=(j:Int):=by rw [IntKind.wrap_u64];omega
 have Ww:=fun m=>CW c BJ hb.1 m
 generalize km:lz c k i=s at *
 refine zS<|zP 1 [{}] [.aa [18,4,2,0,1,7,5,6] [2]] (yM 6 (yT ((↑i:Int)<10)))<|iw 18 ((↑s.snd:Int)<c.cH.bA)<|a_<|zS<|zB 1<|zP 2 [yH [(2,yV (ai ((↑i:Int)+(↑k:Int)))),(3,yV (ai (↑(eT ((↑i:Int)+(↑k:Int)) (10:Int)):Int))),(4,yV (ai ↑j))],{}] [.aa [9,8,18,4,2,0,1,7,5,6] [2]] [yN ((↑i:Int)+(↑k:Int)),yI (lI ((↑i:Int)+(↑k:Int)) ((10:Int)) ag ag),yB (ai (↑(eT ((↑i:Int)+(↑k:Int)) (10:Int)):Int)=ai ↑j) (by rw [hj])]<|zB 2 (zL (fun (m:Nat)=>(⟨[(8,ai ↑j),(18,ao (decide ((↑s.snd:Int)<c.cH.bA))),(4,ai 0),(2,AV.addr 2 0),(0,AV.agg [ai c.cH.aC,aw c.cH.head,ai c.cH.bA,AV.sl 4 (af aT c.cH.aq),AV.sl 7 (af bj c.cH.aU),AV.sl 17 (af bf c.log),ai (c.nx 0),ai (c.nx 1),ai (c.nx 2),ai (c.nx 3),ai (c.nx 4),ai (c.nx 5),ai (c.nx 6),ai (c.nx 7),ai (c.nx 8),ai (c.nx 9)]),(1,ai ↑k),(7,ai ↑i),(9,ai m),(5,ai (nW c j s m).1),(6,ai (nW c j s m).2)],[(2,⟨1,false,true,lr c⟩)]⟩:AS)) (fun m=>(m≤c.cH.aq.length)) (fun m=>(c.cH.aq.length-m)) (0) ?_ (zW [.aa [8,18,4,2,0,1,7,9,5,6] [2]]) ?_)
 ·omega
 intro m Jb
 have Wv:=Ww m
 refine zS<|zP 1 [yH [(4,{k:=c.cH.aq.length})]] [.aa [30,8,18,4,2,0,1,7,9,5,6] [2]] [yI nG] (zD 30 ((↑m:Int)<(↑c.cH.aq.length:Int)) (fun q=>?_) (fun q=>?_))
 ·have S7:m<c.cH.aq.length:=ag
  have gM:=oO S7
  by_cases cn:(c.cH.aq.getD m default).name=(eK j).name
  case neg =>
   have h1:nW c j s (m+1)=nW c j s m:=if_neg (fun q=>cn q.1)
   refine a_<|zS<|zB 3<|zP 1 [{hs:=[(4,{k:=m}),(6,yV (cV (c.cH.aq.getD m default).name)),(8,yC oT),(10,yV (ao ((c.cH.aq.getD m default).name == (eK j).name))),(12,{g:=false}),(13,{g:=false}),(14,{g:=false}),(15,{g:=false}),(16,{g:=false}),(17,{b:=false})],T:=14}] [.aa [50,30,8,18,4,2,0,1,7,9,5,6] [2]] ([yR (↑m:Int),yO (m*4<(af aT c.cH.aq).length),yA aT c.cH.aq m 0,yI oT,yI (fF ((c.cH.aq.getD m default).name) ((eK j).name))]++yM 6 (yS (((c.cH.aq.getD m default).name == (eK j).name)=false)))<|zF 50<|zK<|aJ<|al<|zX (yH [(1,yV (ai ((↑m:Int)+1)))]) [yN ((↑m:Int)+1)] (aH (m+1) (by assumption) ag (eS [.aa [8,18,4,2,0,1,7,9,5,6] [2]] [5,6] [] [yB (ai (↑(nW c j s m).fst:Int)=ai (↑(nW c j s (m+1)).fst:Int)) (by rw [h1]),yB (ai (↑(nW c j s m).snd:Int)=ai (↑(nW c j s (m+1)).snd:Int)) (by rw [h1])]))
  by_cases cx:c.nx j<16
  case neg =>
   have h1:nW c j s (m+1)=nW c j s m:=if_neg (fun q=>cx q.2)
   refine a_<|zS<|zB 3<|zP 1 [{hs:=[(4,{k:=m}),(6,yV (cV (c.cH.aq.getD m default).name)),(8,yC oT),(10,yV (ao ((c.cH.aq.getD m default).name == (eK j).name))),(14,{k:=j}),(15,yV (ai (c.nx j)))],T:=14}] [.aa [50,30,8,18,4,2,0,1,7,9,5,6] [2]] ([yR (↑m:Int),yO (m*4<(af aT c.cH.aq).length),yA aT c.cH.aq m 0,yI oT,yI (fF ((c.cH.aq.getD m default).name) ((eK j).name))]++yM 3 (yS (((c.cH.aq.getD m default).name == (eK j).name)=true))++ [yR (↑j:Int),yI BJ,yS (((c.cH.aq.getD m default).name == (eK j).name)=true),yI ME]++yM 2 (yS (((c.cH.aq.getD m default).name == (eK j).name)=true)))<|dF 50 (c.nx j<16)<|zK<|aJ<|al<|zX (yH [(1,yV (ai ((↑m:Int)+1)))]) [yN ((↑m:Int)+1)] (aH (m+1) (by assumption) ag (eS [.aa [8,18,4,2,0,1,7,9,5,6] [2]] [5,6] [] [yB (ai (↑(nW c j s m).fst:Int)=ai (↑(nW c j s (m+1)).fst:Int)) (by rw [h1]),yB (ai (↑(nW c j s m).snd:Int)=ai (↑(nW c j s (m+1)).snd:Int)) (by rw [h1])]))
  have h1:nW c j s (m+1)=((nW c j s m).1|||2^j,(nW c j s m).2+1):=if_pos ⟨cn,cx⟩
  have Df:=Nk BJ
  have ub:=Nu (a:=(nW c j s m).1) (b:=2^j) ag (by have:=Nat.pow_lt_pow_right (a:=2) (by decide) BJ;omega)
  refine a_<|zS<|zB 3<|zP 1 [{hs:=[(4,{k:=m}),(6,yV (cV (c.cH.aq.getD m default).name)),(8,yC oT),(10,yV (ao ((c.cH.aq.getD m default).name == (eK j).name))),(14,{k:=j}),(15,yV (ai (c.nx j)))],T:=14}] [.aa [50,30,8,18,4,2,0,1,7,9,5,6] [2]] ([yR (↑m:Int),yO (m*4<(af aT c.cH.aq).length),yA aT c.cH.aq m 0,yI oT,yI (fF ((c.cH.aq.getD m default).name) ((eK j).name))]++yM 3 (yS (((c.cH.aq.getD m default).name == (eK j).name)=true))++ [yR (↑j:Int),yI BJ,yS (((c.cH.aq.getD m default).name == (eK j).name)=true),yI ME]++yM 2 (yS (((c.cH.aq.getD m default).name == (eK j).name)=true)))<|iw 50 (c.nx j<16)<|zP 1 [yH [(2,yV (AV.val (Value.int .u64 (↑j:Int)))),(3,yV (ai (↑((2:Nat)^j):Int))),(4,yV (ai (↑((nW c j s m).fst|||(2:Nat)^j):Int)))]] [.aa [5,50,30,8,18,4,2,0,1,7,9,6] [2]] [yI (yd SA),yI (yc Df),yO ((0:Int)≤(↑j:Int)),yI (yc ub)]<|zX (yH [(1,yV (ai ((↑(nW c j s m).snd:Int)+1)))]) [yN ((↑(nW c j s m).snd:Int)+1)]<|aJ<|al<|zX (yH [(1,yV (ai ((↑m:Int)+1)))]) [yN ((↑m:Int)+1)] (aH (m+1) (by assumption) ag (eS [.aa [8,18,4,2,0,1,7,9,5,6] [2]] [5,6] [] [yB (ai (↑((nW c j s m).fst|||(2:Nat)^j):Int)=ai (↑(nW c j s (m+1)).fst:Int)) (by rw [h1]),yB (ai ((↑(nW c j s m).snd:Int)+1)=ai (↑(nW c j s (m+1)).snd:Int)) (by rw [h1];rfl)]))
 ·have em:m=c.cH.aq.length:=ag
  subst em
  refine zE 2<|a6<|aM<|bm<|aJ<|al<|zX (yH [(1,yV (ai ((↑i:Int)+1)))]) [yN ((↑i:Int)+1)] (aH (i+1) (by assumption) ag (eS [.aa [4,2,0,1,7,5,6] [2]] [5,6] [] [yB (ai (↑(nW c j s c.cH.aq.length).fst:Int)=ai (↑(lz c k (i+1)).fst:Int)) (by rw [dJ]),yB (ai (↑(nW c j s c.cH.aq.length).snd:Int)=ai (↑(lz c k (i+1)).snd:Int)) (by rw [dJ])]))
end Go.Proofs.YtjgbhhnghedgdaaGreatDoor
