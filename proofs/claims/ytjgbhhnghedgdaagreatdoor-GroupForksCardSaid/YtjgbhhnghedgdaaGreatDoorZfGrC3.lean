import Derived.Test.YtjgbhhnghedgdaaGreatDoorZfGrC2
set_option linter.all false
namespace Go.Proofs.YtjgbhhnghedgdaaGreatDoor
open Go.RowKit
set_option maxRecDepth 100000
set_option maxHeartbeats 4000000
theorem GM (l:List gW) (n:List UInt8) {i:Nat} (h:i<l.length):BA (l.take (i+1)) n=if PS (l.getD i default).name n=true∧BA (l.take i) n=i then i+1 else BA (l.take i) n:=by
 unfold BA
 rw [List.take_add_one,List.getD_eq_getElem?_getD,List.getElem?_eq_getElem h,List.takeWhile_append,List.length_take,Nat.min_eq_left ag]
 by_cases c:(List.takeWhile (fun v:gW=>PS v.name n) (l.take i)).length=i
 ·rw [if_pos c]
  by_cases c2:PS l[i].name n=true
  ·rw [if_pos ⟨c2,c⟩]
   simp [c2];omega
  ·rw [if_neg (fun q=>c2 q.1)]
   simp [c2];omega
 ·rw [if_neg c,if_neg (fun q=>c q.2)]
theorem Fv (l:List gW) (n:List UInt8):BA l n≤l.length:=(List.takeWhile_sublist _).length_le
theorem Aq {l:List gW} {n:List UInt8} (h:∀j,j<l.length->(l.getD j default).name≠n):l0 l n=false:=by
 unfold l0
 rw [List.any_eq_false]
 intro v hv
 obtain ⟨j,hj,rfl⟩:=List.mem_iff_getElem.1 hv
 have:=h j hj
 rw [List.getD_eq_getElem?_getD,List.getElem?_eq_getElem hj] at this
 simpa using this
theorem Gc {l:List gW} {n:List UInt8} {i:Nat} (hi:i<l.length) (e:(l.getD i default).name=n):l0 l n=true:=by
 unfold l0
 rw [List.any_eq_true]
 rw [List.getD_eq_getElem?_getD,List.getElem?_eq_getElem hi] at e
 exact ⟨_,List.getElem_mem hi,by simpa using e⟩
def AM:List AV:=[ai 0,aw 0,ai 0,di [],ai 0,aw 0,ai 0,aw 0,aw 0,.nil,.nil,.nil,ai 0,aw 0,aw 0,aw 0,.nil]
def C3 (e:dj) (n:List UInt8) (seed:UInt64) (h leaf:Int):List AV:=if mJ e n h leaf=0 then aG (qg e n seed h leaf) else AM
theorem Bq (e:dj) (n:List UInt8) (seed:UInt64) (h leaf:Int) (hv:e.ak.length≤1000000) (lH:bA Tryz.prog 40 [.agg (aG e)] (.b_ [.own 1 (ah (dM e)),ai (eO e)])):bA Tryz.prog 26 [.agg (aG e),di n,aw seed,ai h,ai leaf] (.b_ [.agg (C3 e n seed h leaf),ai (mJ e n h leaf)]):=by
 have xW:(ae aW e.ak).length=e.ak.length*4:=aA (e:=4) (fun _=>rfl) ..
 by_cases cb:eO e=0
 case neg =>
  have ce:mJ e n h leaf=eO e:=if_pos cb
  have cf:C3 e n seed h leaf=AM:=if_neg (by rw [ce];exact cb)
  rw [cf,ce]
  refine zO Tryz.func26 89<|zP 2 [{},yH [(1,yC lH)]] [.aa [13,12,11,10,5,0,1,2,3,4] [1020,10,5]] [yI lH,yI (aQ (dM e))]<|zS<|zQ 1 [yH [(1,yV (ao true))]] [yB (ao (eO e != (0:Int))=ao true) (by simp [cb])]<|zT 24<|zP 1 [{}] [.aa [11,24,13,12,10,5,0,1,2,3,4] [10,1020,5]] [yL 17 17]<|dk (bL)
 have nG:=qR e cb
 rw [cb] at lH
 have DP:=lS (dM e) ag
 rw [show hash 16 (dM e)=cO e from rfl] at DP
 refine zO Tryz.func26 89<|zP 2 [{},yH [(1,yC lH)]] [.aa [13,12,11,10,5,0,1,2,3,4] [1020,10,5]] [yI lH,yI (aQ (dM e))]<|zS<|zq<|zF 24<|a6<|zq<|zS<|zq<|zB 0 (zL (fun (p:Nat×Nat)=>(⟨[(24,ao ((0:Int) != (0:Int))),(13,ai 0),(12,AV.ref 1020),(10,AV.addr 10 0),(5,AV.addr 5 0),(0,AV.agg (aG e)),(1,di n),(2,aw seed),(3,ai h),(4,ai leaf),(15,ai p.1),(14,ai p.2)],[(1020,⟨1,true,false,ah (dM e)⟩),(10,⟨1,false,true,[ai 0,dY,ai 0,AV.val (Value.string (ByteArray.mk #[])),ai 0,dY,ai 0,dY,dY,AV.nil,AV.nil,AV.nil,ai 0,dY,dY,dY,AV.nil]⟩),(5,⟨1,false,true,List.map (aH 1020) (List.map (aH 10) (List.map (aH 5) (aG e)))⟩)]⟩:AS)) (fun p=>(p.1≤e.ak.length∧p.2=BA (e.ak.take p.1) n∧ ∀j,j<p.1->(e.ak.getD j default).name≠n)) (fun p=>(e.ak.length-p.1)) ((0,0)) ?_ (zW [.aa [24,13,12,10,5,0,1,2,3,4,15,14] [1020,10,5]]) ?_)
 ·exact ⟨ag,rfl,ag⟩
 rintro ⟨i,a⟩ ⟨hi,ha,fO⟩
 simp only at hi ha fO
 refine zS<|zP 1 [yH [(3,{k:=e.ak.length})]] [.aa [31,24,13,12,10,5,0,1,2,3,4,15,14] [1020,10,5]] [yI xW] (zD 31 ((↑i:Int)<(↑e.ak.length:Int)) (fun q=>?_) (fun q=>?_))
 ·have dc:i<e.ak.length:=ag
  have ic:=jF dc
  have dC:=GM e.ak n dc
  by_cases cn:(e.ak.getD i default).name=n
  ·have hd:=Gc dc cn
   have ce:mJ e n h leaf=10:=by unfold mJ;rw [if_neg (fun q=>q cb),if_pos hd]
   have cf:C3 e n seed h leaf=AM:=if_neg ag
   rw [cf,ce]
   refine a6<|zS<|zB 1<|zS<|zP 1 [yH [(3,{k:=i}),(5,yV (di (e.ak.getD i default).name)),(7,yV (ao ((e.ak.getD i default).name == n)))]] [.aa [41,31,24,13,12,10,5,0,1,2,3,4,15,14] [1020,10,5]] [yR (↑i:Int),yO (i*4<(ae aW e.ak).length),yA aW e.ak i 0,yI (eY ((e.ak.getD i default).name) n)]<|du 41 ((e.ak.getD i default).name == n) (by simp_all)<|zP 1 [{}] [.aa [11,41,31,24,13,12,10,5,0,1,2,3,4,15,14] [10,1020,5]] [yL 17 17]<|dk<|ba<|aI<|dh<|ba<|aI (bL)
  by_cases cl:PS (e.ak.getD i default).name n=true
  ·by_cases ca:a=i
   ·rw [if_pos ⟨cl,ag⟩] at dC
    have X6:((a:Int) == (i:Int))=true:=beq_iff_eq.2 ag
    clear ha ca
    refine a6<|zS<|zB 1<|zS<|zP 1 [yH [(3,{k:=i}),(5,yV (di (e.ak.getD i default).name)),(7,yV (ao ((e.ak.getD i default).name == n)))]] [.aa [41,31,24,13,12,10,5,0,1,2,3,4,15,14] [1020,10,5]] [yR (↑i:Int),yO (i*4<(ae aW e.ak).length),yA aW e.ak i 0,yI (eY ((e.ak.getD i default).name) n)]<|bj 41 ((e.ak.getD i default).name == n) (by simp_all)<|a6<|zP 1 [yH [(3,{k:=i}),(5,yV (di (e.ak.getD i default).name))]] [.aa [55,41,31,24,13,12,10,5,0,1,2,3,4,15,14] [1020,10,5]] ([yR (↑i:Int),yO (i*4<(ae aW e.ak).length),yA aW e.ak i 0]++yM 4 (yB (Op.bytesLess (ByteArray.mk (e.ak.getD i default).name.toArray).toList (ByteArray.mk n.toArray).toList=true) (by assumption)))<|du 55 ((↑a:Int) == (↑i:Int)) (by assumption)<|zX (yH [(1,yV (ai ((↑i:Int)+1)))]) [yN ((↑i:Int)+1)]<|aK<|al<|zX (yH [(1,yV (ai ((↑i:Int)+1)))]) [yN ((↑i:Int)+1)] (aF (i+1,i+1) ⟨ag,by show i+1=_;rw [dC],fun j hj=>by by_cases e2:j=i;(subst e2;exact cn);exact fO j ag⟩ ag (zW [.aa [24,13,12,10,5,0,1,2,3,4,15,14] [1020,10,5]]))
   ·rw [if_neg (fun q=>ca ag)] at dC
    refine a6<|zS<|zB 1<|zS<|zP 1 [yH [(3,{k:=i}),(5,yV (di (e.ak.getD i default).name)),(7,yV (ao ((e.ak.getD i default).name == n)))]] [.aa [41,31,24,13,12,10,5,0,1,2,3,4,15,14] [1020,10,5]] [yR (↑i:Int),yO (i*4<(ae aW e.ak).length),yA aW e.ak i 0,yI (eY ((e.ak.getD i default).name) n)]<|bj 41 ((e.ak.getD i default).name == n) (by simp_all)<|a6<|zP 1 [yH [(3,{k:=i}),(5,yV (di (e.ak.getD i default).name))]] [.aa [55,41,31,24,13,12,10,5,0,1,2,3,4,15,14] [1020,10,5]] ([yR (↑i:Int),yO (i*4<(ae aW e.ak).length),yA aW e.ak i 0]++yM 4 (yB (Op.bytesLess (ByteArray.mk (e.ak.getD i default).name.toArray).toList (ByteArray.mk n.toArray).toList=true) (by assumption)))<|bj 55 ((↑a:Int) == (↑i:Int)) bx<|zK<|aK<|al<|zX (yH [(1,yV (ai ((↑i:Int)+1)))]) [yN ((↑i:Int)+1)] (aF (i+1,a) ⟨ag,by show a=_;rw [dC,ha],fun j hj=>by by_cases e2:j=i;(subst e2;exact cn);exact fO j ag⟩ ag (zW [.aa [24,13,12,10,5,0,1,2,3,4,15,14] [1020,10,5]]))
  ·rw [if_neg (fun q=>cl q.1)] at dC
   have X5:PS (e.ak.getD i default).name n=false:=by simpa using cl
   refine a6<|zS<|zB 1<|zS<|zP 1 [yH [(3,{k:=i}),(5,yV (di (e.ak.getD i default).name)),(7,yV (ao ((e.ak.getD i default).name == n)))]] [.aa [41,31,24,13,12,10,5,0,1,2,3,4,15,14] [1020,10,5]] [yR (↑i:Int),yO (i*4<(ae aW e.ak).length),yA aW e.ak i 0,yI (eY ((e.ak.getD i default).name) n)]<|bj 41 ((e.ak.getD i default).name == n) (by simp_all)<|a6<|zP 1 [yH ([(3,{k:=i}),(5,yV (di (e.ak.getD i default).name)),(12,{b:=false})]++yg [9,10,11])] [.aa [55,41,31,24,13,12,10,5,0,1,2,3,4,15,14] [1020,10,5]] ([yR (↑i:Int),yO (i*4<(ae aW e.ak).length),yA aW e.ak i 0]++yM 4 (yB (Op.bytesLess (ByteArray.mk (e.ak.getD i default).name.toArray).toList (ByteArray.mk n.toArray).toList=false) (by assumption)))<|zF 55<|zK<|aK<|al<|zX (yH [(1,yV (ai ((↑i:Int)+1)))]) [yN ((↑i:Int)+1)] (aF (i+1,a) ⟨ag,by show a=_;rw [dC,ha],fun j hj=>by by_cases e2:j=i;(subst e2;exact cn);exact fO j ag⟩ ag (zW [.aa [24,13,12,10,5,0,1,2,3,4,15,14] [1020,10,5]]))
 ·have ei:i=e.ak.length:=ag
  subst ei
  rw [List.take_length] at ha
  have hd:=Aq fO
  have hq:mJ e n h leaf=Bc h leaf:=by unfold mJ;rw [if_neg (fun q=>q cb),if_neg (by rw [hd];decide)]
  by_cases cs:Bc h leaf=0
  case neg =>
   have cf:C3 e n seed h leaf=AM:=if_neg (by rw [hq];exact cs)
   rw [cf,hq]
   refine zE 0<|a7<|aP<|bp<|al<|zP 1 [yH [(4,yC DP),(5,yC (lF (seed) (h) (leaf) (cO e)))]] [.aa [13,16,31,24,12,10,5,0,1,2,3,4,15,14] [16,301064,201064,1020,10,5]] [yI DP,yI (lF seed h leaf (cO e)),yB (lM (aj (pE seed h leaf (cO e)))) (gK _),yB (lM (aj (pD seed h leaf))) (gK _),yL 3 3]<|zS<|zQ 1 [yH [(1,yV (ao true))]] [yB (ao (Bc h leaf != (0:Int))=ao true) (by simp [cs])]<|zT 68<|zP 1 [{}] [.aa [11,68,13,16,31,24,12,10,5,0,1,2,3,4,15,14] [10,16,301064,201064,1020,5]] [yL 17 17]<|dk (bL)
  have cr:C3 e n seed h leaf=aG (qg e n seed h leaf):=if_pos (by rw [hq];exact cs)
  have cf:qg e n seed h leaf= {e with ak:=vC e.ak ⟨n,qo h leaf,pE seed h leaf (cO e),pD seed h leaf⟩}:=if_neg (by rw [hq];exact fun q=>q cs)
  rw [cr,hq,cf,cs]
  have J0:=Fv e.ak n
  have pv:cC (ae aW e.ak):=dJ (fun x=>dQ rfl) _
  have s1:ae aW (e.ak.take a)++aW ⟨n,qo h leaf,pE seed h leaf (cO e),pD seed h leaf⟩=ae aW (e.ak.take a++ [⟨n,qo h leaf,pE seed h leaf (cO e),pD seed h leaf⟩]):=fS _ _
  have s2:ae aW (e.ak.take a++ [⟨n,qo h leaf,pE seed h leaf (cO e),pD seed h leaf⟩])++(ae aW e.ak).drop (a*4)=ae aW (vC e.ak ⟨n,qo h leaf,pE seed h leaf (cO e),pD seed h leaf⟩):=by rw [oU (e:=4) (fun _=>rfl),fT];unfold vC;rw [ha]
  have s0:(ae aW e.ak).take (a*4)=ae aW (e.ak.take a):=oT (e:=4) (fun _=>rfl) _ _
  have Rc:cC ((ae aW e.ak).take (a*4)):=fun x hx=>pv x (List.mem_of_mem_take hx)
  have P3:cC ((ae aW e.ak).drop (a*4)):=fun x hx=>pv x (List.mem_of_mem_drop hx)
  refine zE 0<|a7<|aP<|bp<|al<|zP 1 [yH [(4,yC DP),(5,yC (lF (seed) (h) (leaf) (cO e)))]] [.aa [13,16,31,24,12,10,5,0,1,2,3,4,15,14] [16,301064,201064,1020,10,5]] [yI DP,yI (lF seed h leaf (cO e)),yB (lM (aj (pE seed h leaf (cO e)))) (gK _),yB (lM (aj (pD seed h leaf))) (gK _),yL 3 3]<|zS<|zQ 1 [yH [(1,yV (ao false))]] [yB (ao (Bc h leaf != (0:Int))=ao false) (by simp [cs])]<|zF 68<|a6<|bf.tD [.gM 201064,.gM 301064] bC<|zS<|yw 9 [4] [(3,{m:=a}),(4,{av:=some (AV.arr (ae aW (List.take a e.ak))),b:=false}),(9,yV (AV.arr (ae aW (List.take a e.ak++ [gW.mk n (qo h leaf) (pE seed h leaf (cO e)) (pD seed h leaf)]))))] [yR (↑a:Int),yO (a*4≤(ae aW e.ak).length),yI s0,yI Rc,yB ((0+(List.take (a*4) (ae aW e.ak)).length)*72≤562949953421312) (by simp only [List.length_take];omega),yR (di n),yR (AV.agg [ai (qo h leaf),AV.sl 1 (aj (pE seed h leaf (cO e))),AV.sl 1 (aj (pD seed h leaf))]),yR (AV.agg [di n,ai (qo h leaf),AV.sl 1 (aj (pE seed h leaf (cO e))),AV.sl 1 (aj (pD seed h leaf))]),yR (AV.sl 4 [di n,ai (qo h leaf),AV.sl 1 (aj (pE seed h leaf (cO e))),AV.sl 1 (aj (pD seed h leaf))]),yI s1,yB (((ae aW (List.take a e.ak)).length+4)*72≤562949953421312) (by simp only [List.length_take,aA (f:=aW) (e:=4) (fun _=>rfl)];omega)]<|al<|zP 2 [yH [(4,{k:=a}),(5,{av:=some (AV.arr (ae aW (vC e.ak (gW.mk n (qo h leaf) (pE seed h leaf (cO e)) (pD seed h leaf))))),b:=false})],{}] [.aa [11,68,13,16,31,24,12,10,5,0,1,2,3,4,15,14] [10,5,86,16,1020]] [yR (↑a:Int),yO (a*4≤(ae aW e.ak).length),yI s2,yI P3,yB (((ae aW (List.take a e.ak++ [gW.mk n (qo h leaf) (pE seed h leaf (cO e)) (pD seed h leaf)])).length+(List.drop (a*4) (ae aW e.ak)).length)*72≤562949953421312) (by simp only [List.length_append,List.length_cons,List.length_nil,List.length_take,List.length_drop,aA (f:=aW) (e:=4) (fun _=>rfl)];omega),yL 17 17,yL 17 17]<|bf.tD [.gM 86] bC<|zR (bL)
def ik (l:List Int) (k:Nat) (n:Int):Nat:=if k<l.length then gm (l.getD k 0) n else 0
def dW (l:List Int) (k:Nat):Nat:=if k<l.length then k+1 else k
theorem oI (l:List Int):bA Tryz.prog 13 [.sl 1 (ax l)] (.box [.sl 1 (ax l),ai 0]):=by
 refine zO Tryz.func13 6<|zP 2 [{},{}] [.aa [2,0] [5]] []<|zR (bL)
theorem dL (l:List Int) (k:Nat) (n:Int) (hk:k≤l.length) (hl:l.length≤9223372036854775807) (h1:1≤n) (h2:n≤9223372036854775807):gw Tryz.prog 24 [.addr 1000000000000 0,ai n] [(1000000000000,⟨1,false,true,[.sl 1 (ax l),ai k]⟩)] (ai (ik l k n)) [(1000000000000,⟨1,false,true,[.sl 1 (ax l),ai (dW l k)]⟩)]:=by
 by_cases h:k<l.length
 ·have e1:ik l k n=gm (l.getD k 0) n:=if_pos h
  have e2:dW l k=k+1:=if_pos h
  have ew:IntKind.i64.wrap ((k:Int)+1)=((k+1:Nat):Int):=by rw [IntKind.wrap_i64];omega
  have ev:IntKind.i64.wrap (((k+1:Nat):Int)-1)=(k:Int):=by rw [IntKind.wrap_i64];omega
  rw [e1,e2]
  refine nw Tryz.func24 35<|zq<|zS<|zP 1 [{hs:=[(8,{k:=l.length})],T:=9}] [.aa [14,4,0,1] [1000000000000]] [yI (kF l)]<|dm 14 ((↑k:Int)≥(↑l.length:Int))<|a6<|zP 2 [yH [(4,yV (ai (↑(k+1):Int)))],{hs:=[(8,yV (ai ↑k)),(9,{k:=k}),(10,yV (ai (l.getD k (0:Int)))),(12,yC (qH (l.getD k (0:Int)) (n) h1 h2))],T:=12}] [.aa [4,14,0,1] [1000000000000]] [yB (ai (IntKind.i64.wrap ((↑k:Int)+1))=ai (↑(k+1):Int)) (eG ag ag),yL 2 2,yI (yc ev),yR (↑k:Int),yB (k<(ax l).length) (by simp only [kF];omega),yB ((ax l)[k]?=some (ai (l.getD k (0:Int)))) (mn ag),yI (qH (l.getD k (0:Int)) n h1 h2)]<|zR (zG [] [yR (Value.int .i64 (↑(gm (l.getD k (0:Int)) n):Int)),yR [AV.sl 1 (ax l),ai (↑(k+1):Int)]])
 ·have e1:ik l k n=0:=if_neg h
  have e2:dW l k=k:=if_neg h
  rw [e1,e2]
  refine nw Tryz.func24 35<|zq<|zS<|zP 1 [{hs:=[(8,{k:=l.length})],T:=9}] [.aa [14,4,0,1] [1000000000000]] [yI (kF l)]<|gX 14 ((↑k:Int)≥(↑l.length:Int))<|zq<|dk (zG [] [yR (Value.int .i64 0),yR [AV.sl 1 (ax l),ai ↑k]])
theorem dU {l:List Int} {k:Nat} (h:k≤l.length):dW l k≤l.length:=by unfold dW;split<;>omega
theorem l3 (l:List Int) (k:Nat) {n:Int} (h:1≤n):(ik l k n:Int)<n:=by
 unfold ik
 split
 ·unfold gm
  have:=Int.emod_lt_of_pos (l.getD k 0%18446744073709551616) (ag:0<n)
  have:=Int.emod_nonneg (l.getD k 0%18446744073709551616) (ag:n≠0)
  omega
 ·omega
structure rA where
 b7:fG
 log:List dj
 nx:Nat->Int
def ll (c:rA):List AV:=[ai c.b7.aC,aw c.b7.head,ai c.b7.bm,.sl 4 (ae aN c.b7.aq),.sl 7 (ae bk c.b7.aR),.sl 17 (ae aG c.log),ai (c.nx 0),ai (c.nx 1),ai (c.nx 2),ai (c.nx 3),ai (c.nx 4),ai (c.nx 5),ai (c.nx 6),ai (c.nx 7),ai (c.nx 8),ai (c.nx 9)]
def BE (f:Nat->Int):List AV:=[ai (f 0),ai (f 1),ai (f 2),ai (f 3),ai (f 4),ai (f 5),ai (f 6),ai (f 7),ai (f 8),ai (f 9)]
def CJ:rA:=⟨bU (dv 0),[],fun _=>0⟩
theorem yl:bA Tryz.prog 15 [] (.agg (ll CJ)):=by
 have hm:=fC 0 ag
 have hn:=Dp (dv 0) (Nat.le_of_ble_eq_true rfl)
 unfold CJ
 generalize bU (dv 0)=G at *
 refine zO Tryz.func15 10<|zP 3 [{},yH [(0,yC hm),(1,yD hn)],{}] [.aa [1,0] [0,1,501005]] [yI hm,yI hn,yL 5 5,yL 16 16]<|bf.tD [.gM 501005] bC<|bf.pA (bO.Ot 0 [(5,17)] bC)<|zR (zV ([yR (Value.int .i64 G.aC),yR (Value.int .u64 (wv G.head)),yR (Value.int .i64 G.bm),yR (ae aN G.aq),yR (ae bk G.aR),yB ([]=ae aG []) rfl]++yM 10 (yR (Value.int .i64 0))))
theorem GZ (l:List Int) (k:Nat) (hk:k≤l.length) (hl:l.length≤9223372036854775807):gw Tryz.prog 28 [.addr 1000000000000 0] [(1000000000000,⟨1,false,true,[.sl 1 (ax l),ai k]⟩)] (ao (decide (k<l.length))) [(1000000000000,⟨1,false,true,[.sl 1 (ax l),ai k]⟩)]:=by
 refine nw Tryz.func28 13<|zP 2 [{},{hs:=[(8,{k:=l.length})],T:=9}] [.aa [2,0] [1000000000000]] [yI (kF l)]<|zR (zG [] [yB (Value.bool (decide ((↑k:Int)<(↑l.length:Int)))=Value.bool (decide (k<l.length))) (by simp),yR [AV.sl 1 (ax l),ai ↑k]])
def QE (c:rA) (j:Nat) (m:Nat):Prop:=(c.b7.aq.getD m default).name=(dv j).name∧c.nx j<16
instance (c:rA) (j m:Nat):Decidable (QE c j m):=inferInstanceAs (Decidable (_∧_))
def nT (c:rA) (j:Nat) (s:Nat×Nat):Nat->Nat×Nat
 | 0=>s
 | m+1=>if QE c j m then ((nT c j s m).1|||2^j,(nT c j s m).2+1) else nT c j s m
def lx (c:rA) (k:Nat):Nat->Nat×Nat
 | 0=>(0,0)
 | i+1=>if ((lx c k i).2:Int)<c.b7.bm then nT c (gm ((i:Int)+k) 10) (lx c k i) c.b7.aq.length else lx c k i
def Bw (c:rA) (k:Nat):Nat:=(lx c k 10).1
theorem QH (f:Nat->Int) {j:Nat} (h:j<10):(BE f)[j]?=some (ai (f j)):=by
 rcases j with _|_|_|_|_|_|_|_|_|_|j<;>first|rfl|omega
theorem Du (c:rA) {j:Nat} (hj:j<10) {s:Nat×Nat} (hs:s.1<1024):∀m,(nT c j s m).1<1024∧(nT c j s m).2≤s.2+m
 | 0=>⟨hs,Nat.le_refl _⟩
 | m+1=>by
  have ih:=Du c hj hs m
  unfold nT
  split
  ·refine ⟨Nat.or_lt_two_pow (n:=10) ih.1 (Nat.pow_lt_pow_right (by decide) hj),?_⟩
   show _+1≤_
   omega
  ·exact ⟨ih.1,ag⟩
theorem zb (c:rA) (k:Nat):∀i,(lx c k i).1<1024∧(lx c k i).2≤i*c.b7.aq.length
 | 0=>⟨Nat.zero_lt_succ _,Nat.zero_le _⟩
 | i+1=>by
  have ih:=zb c k i
  unfold lx
  split
  ·have hj:=ua ((i:Int)+k) (n:=10) ag
   have:=Du c (j:=gm ((i:Int)+k) 10) ag ih.1 c.b7.aq.length
   refine ⟨this.1,Nat.le_trans this.2 ?_⟩
   rw [Nat.succ_mul];omega
  ·refine ⟨ih.1,Nat.le_trans ih.2 ?_⟩
   rw [Nat.succ_mul];omega
theorem xL (c:rA) (k:Nat) {i:Nat} (h:¬((lx c k i).2:Int)<c.b7.bm):∀d,lx c k (i+d)=lx c k i
 | 0=>rfl
 | d+1=>by
  have ih:=xL c k h d
  show (if ((lx c k (i+d)).2:Int)<c.b7.bm then _ else lx c k (i+d))=_
  rw [ih,if_neg h]
theorem Pu (c:rA) {j:Nat} (h:j<10):(ll c)[j+6]?=some (ai (c.nx j)):=by
 rcases j with _|_|_|_|_|_|_|_|_|_|j<;>first|rfl|omega
theorem Od {j:Nat} (h:j<10):IntKind.i64.wrap (1*2^min ((j:Nat):Int).toNat IntKind.i64.bits)=((2^j:Nat):Int):=by
 have key:∀j:Fin 10,IntKind.i64.wrap (1*2^min ((j.val:Nat):Int).toNat IntKind.i64.bits)=((2^j.val:Nat):Int):=by decide
 exact key ⟨j,h⟩
theorem On {a b:Nat} (ha:a<1024) (hb:b<1024):IntKind.i64.wrap ((BitVec.ofInt IntKind.i64.bits (a:Int)|||BitVec.ofInt IntKind.i64.bits (b:Int)).toNat:Nat)=((a|||b:Nat):Int):=by
 have cZ:=Nat.or_lt_two_pow (n:=10) (x:=a) (y:=b) ha hb
 rw [BitVec.toNat_or,BitVec.toNat_ofInt,BitVec.toNat_ofInt,show ((a:Int)%((2^IntKind.i64.bits:Nat):Int)).toNat=a by show ((a:Int)%18446744073709551616).toNat=a;omega,show ((b:Int)%((2^IntKind.i64.bits:Nat):Int)).toNat=b by show ((b:Int)%18446744073709551616).toNat=b;omega,IntKind.wrap_i64]
 omega
theorem Dt (c:rA) (k:Nat) (hk:k<10) (hm:c.b7.aq.length≤8):bA Tryz.prog 29 [.agg (ll c),ai k] (ai (Bw c k)):=by
 have nF:(ae aN c.b7.aq).length=c.b7.aq.length*4:=aA (e:=4) (fun _=>rfl) ..
 refine zO Tryz.func29 59<|zQ 2 [{},{}] []<|zS<|zq<|zB 0 (zL (fun (i:Nat)=>(⟨[(4,ai 0),(2,AV.addr 2 0),(0,AV.agg [ai c.b7.aC,aw c.b7.head,ai c.b7.bm,AV.sl 4 (ae aN c.b7.aq),AV.sl 7 (ae bk c.b7.aR),AV.sl 17 (ae aG c.log),ai (c.nx 0),ai (c.nx 1),ai (c.nx 2),ai (c.nx 3),ai (c.nx 4),ai (c.nx 5),ai (c.nx 6),ai (c.nx 7),ai (c.nx 8),ai (c.nx 9)]),(1,ai ↑k),(7,ai i),(5,ai (lx c k i).1),(6,ai (lx c k i).2)],[(2,⟨1,false,true,List.map (aH 2) (ll c)⟩)]⟩:AS)) (fun i=>(i≤10)) (fun i=>(10-i)) (0) ?_ (zW [.aa [4,2,0,1,7,5,6] [2]]) ?_)
 ·omega
 intro i hi
 have hb:=zb c k i
 have sf:i*c.b7.aq.length≤80:=Nat.mul_le_mul hi hm
 by_cases c1:i<10
 case neg =>
  have e:i=10:=ag
  subst e
  refine zS<|zP 1 [yH ([(8,{b:=false})]++yg [3,4,5,6,7])] [.aa [18,4,2,0,1,7,5,6] [2]] (yM 6 (yR false))<|zF 18<|zE 0<|a7<|aP<|bp<|al<|zP 1 [{}] [.aa [4,18,2,0,1,7,5,6] [2]] []<|zR (bL)
 by_cases c2:((lx c k i).2:Int)<c.b7.bm
 case neg =>
  have hs:=xL c k c2 (10-i)
  rw [show i+(10-i)=10 by omega] at hs
  refine zS<|zP 1 [{}] [.aa [18,4,2,0,1,7,5,6] [2]] (yM 6 (yT ((↑i:Int)<10)))<|dm 18 ((↑(lx c k i).snd:Int)<c.b7.bm)<|zE 0<|a7<|aP<|bp<|al<|zq<|zR (zV [yJ (↑(lx c k i).fst:Int) (↑(Bw c k):Int) (by unfold Bw;rw [hs])])
 obtain ⟨j,hj⟩:∃j,j=gm ((i:Int)+k) 10:=⟨_,rfl⟩
 have DT:j<10:=by have:=ua ((i:Int)+k) (n:=10) ag;omega
 have dC:lx c k (i+1)=nT c j (lx c k i) c.b7.aq.length:=by show (if _ then _ else _)=_;rw [if_pos c2,←hj]
 have Nr:=Pu c DT
 have qf:=fC j DT
 have Te:IntKind.u64.wrap ((j:Nat):Int)=(j:Int):=by rw [IntKind.wrap_u64];omega
 have WT:=fun m=>Du c DT hb.1 m
 generalize l9:lx c k i=s at *
 refine zS<|zP 1 [{}] [.aa [18,4,2,0,1,7,5,6] [2]] (yM 6 (yT ((↑i:Int)<10)))<|gX 18 ((↑s.snd:Int)<c.b7.bm)<|a6<|zS<|zB 1<|zP 2 [yH [(2,yV (ai ((↑i:Int)+(↑k:Int)))),(3,yV (ai (↑(gm ((↑i:Int)+(↑k:Int)) (10:Int)):Int))),(4,yV (ai ↑j))],{}] [.aa [9,8,18,4,2,0,1,7,5,6] [2]] [yN ((↑i:Int)+(↑k:Int)),yI (qH ((↑i:Int)+(↑k:Int)) ((10:Int)) ag ag),yB (ai (↑(gm ((↑i:Int)+(↑k:Int)) (10:Int)):Int)=ai ↑j) (by rw [hj])]<|zB 2 (zL (fun (m:Nat)=>(⟨[(8,ai ↑j),(18,ao (decide ((↑s.snd:Int)<c.b7.bm))),(4,ai 0),(2,AV.addr 2 0),(0,AV.agg [ai c.b7.aC,aw c.b7.head,ai c.b7.bm,AV.sl 4 (ae aN c.b7.aq),AV.sl 7 (ae bk c.b7.aR),AV.sl 17 (ae aG c.log),ai (c.nx 0),ai (c.nx 1),ai (c.nx 2),ai (c.nx 3),ai (c.nx 4),ai (c.nx 5),ai (c.nx 6),ai (c.nx 7),ai (c.nx 8),ai (c.nx 9)]),(1,ai ↑k),(7,ai ↑i),(9,ai m),(5,ai (nT c j s m).1),(6,ai (nT c j s m).2)],[(2,⟨1,false,true,ll c⟩)]⟩:AS)) (fun m=>(m≤c.b7.aq.length)) (fun m=>(c.b7.aq.length-m)) (0) ?_ (zW [.aa [8,18,4,2,0,1,7,9,5,6] [2]]) ?_)
 ·omega
 intro m JN
 have WS:=WT m
 refine zS<|zP 1 [yH [(4,{k:=c.b7.aq.length})]] [.aa [30,8,18,4,2,0,1,7,9,5,6] [2]] [yI nF] (zD 30 ((↑m:Int)<(↑c.b7.aq.length:Int)) (fun q=>?_) (fun q=>?_))
 ·have Tz:m<c.b7.aq.length:=ag
  have ic:=oJ Tz
  by_cases cn:(c.b7.aq.getD m default).name=(dv j).name
  case neg =>
   have h1:nT c j s (m+1)=nT c j s m:=if_neg (fun q=>cn q.1)
   refine a6<|zS<|zB 3<|zP 1 [{hs:=[(4,{k:=m}),(6,yV (di (c.b7.aq.getD m default).name)),(8,yC qf),(10,yV (ao ((c.b7.aq.getD m default).name == (dv j).name))),(12,{g:=false}),(13,{g:=false}),(14,{g:=false}),(15,{g:=false}),(16,{g:=false}),(17,{b:=false})],T:=14}] [.aa [50,30,8,18,4,2,0,1,7,9,5,6] [2]] ([yR (↑m:Int),yO (m*4<(ae aN c.b7.aq).length),yA aN c.b7.aq m 0,yI qf,yI (eY ((c.b7.aq.getD m default).name) ((dv j).name))]++yM 6 (yS (((c.b7.aq.getD m default).name == (dv j).name)=false)))<|zF 50<|zK<|aK<|al<|zX (yH [(1,yV (ai ((↑m:Int)+1)))]) [yN ((↑m:Int)+1)] (aF (m+1) (by assumption) ag (eX [.aa [8,18,4,2,0,1,7,9,5,6] [2]] [5,6] [] [yB (ai (↑(nT c j s m).fst:Int)=ai (↑(nT c j s (m+1)).fst:Int)) (by rw [h1]),yB (ai (↑(nT c j s m).snd:Int)=ai (↑(nT c j s (m+1)).snd:Int)) (by rw [h1])]))
  by_cases cx:c.nx j<16
  case neg =>
   have h1:nT c j s (m+1)=nT c j s m:=if_neg (fun q=>cx q.2)
   refine a6<|zS<|zB 3<|zP 1 [{hs:=[(4,{k:=m}),(6,yV (di (c.b7.aq.getD m default).name)),(8,yC qf),(10,yV (ao ((c.b7.aq.getD m default).name == (dv j).name))),(14,{k:=j}),(15,yV (ai (c.nx j)))],T:=14}] [.aa [50,30,8,18,4,2,0,1,7,9,5,6] [2]] ([yR (↑m:Int),yO (m*4<(ae aN c.b7.aq).length),yA aN c.b7.aq m 0,yI qf,yI (eY ((c.b7.aq.getD m default).name) ((dv j).name))]++yM 3 (yS (((c.b7.aq.getD m default).name == (dv j).name)=true))++ [yR (↑j:Int),yI DT,yS (((c.b7.aq.getD m default).name == (dv j).name)=true),yI Nr]++yM 2 (yS (((c.b7.aq.getD m default).name == (dv j).name)=true)))<|dm 50 (c.nx j<16)<|zK<|aK<|al<|zX (yH [(1,yV (ai ((↑m:Int)+1)))]) [yN ((↑m:Int)+1)] (aF (m+1) (by assumption) ag (eX [.aa [8,18,4,2,0,1,7,9,5,6] [2]] [5,6] [] [yB (ai (↑(nT c j s m).fst:Int)=ai (↑(nT c j s (m+1)).fst:Int)) (by rw [h1]),yB (ai (↑(nT c j s m).snd:Int)=ai (↑(nT c j s (m+1)).snd:Int)) (by rw [h1])]))
  have h1:nT c j s (m+1)=((nT c j s m).1|||2^j,(nT c j s m).2+1):=if_pos ⟨cn,cx⟩
  have DO:=Od DT
  have uc:=On (a:=(nT c j s m).1) (b:=2^j) ag (by have:=Nat.pow_lt_pow_right (a:=2) (by decide) DT;omega)
  refine a6<|zS<|zB 3<|zP 1 [{hs:=[(4,{k:=m}),(6,yV (di (c.b7.aq.getD m default).name)),(8,yC qf),(10,yV (ao ((c.b7.aq.getD m default).name == (dv j).name))),(14,{k:=j}),(15,yV (ai (c.nx j)))],T:=14}] [.aa [50,30,8,18,4,2,0,1,7,9,5,6] [2]] ([yR (↑m:Int),yO (m*4<(ae aN c.b7.aq).length),yA aN c.b7.aq m 0,yI qf,yI (eY ((c.b7.aq.getD m default).name) ((dv j).name))]++yM 3 (yS (((c.b7.aq.getD m default).name == (dv j).name)=true))++ [yR (↑j:Int),yI DT,yS (((c.b7.aq.getD m default).name == (dv j).name)=true),yI Nr]++yM 2 (yS (((c.b7.aq.getD m default).name == (dv j).name)=true)))<|gX 50 (c.nx j<16)<|zP 1 [yH [(2,yV (AV.val (Value.int .u64 (↑j:Int)))),(3,yV (ai (↑((2:Nat)^j):Int))),(4,yV (ai (↑((nT c j s m).fst|||(2:Nat)^j):Int)))]] [.aa [5,50,30,8,18,4,2,0,1,7,9,6] [2]] [yI (yd Te),yI (yc DO),yO ((0:Int)≤(↑j:Int)),yI (yc uc)]<|zX (yH [(1,yV (ai ((↑(nT c j s m).snd:Int)+1)))]) [yN ((↑(nT c j s m).snd:Int)+1)]<|aK<|al<|zX (yH [(1,yV (ai ((↑m:Int)+1)))]) [yN ((↑m:Int)+1)] (aF (m+1) (by assumption) ag (eX [.aa [8,18,4,2,0,1,7,9,5,6] [2]] [5,6] [] [yB (ai (↑((nT c j s m).fst|||(2:Nat)^j):Int)=ai (↑(nT c j s (m+1)).fst:Int)) (by rw [h1]),yB (ai ((↑(nT c j s m).snd:Int)+1)=ai (↑(nT c j s (m+1)).snd:Int)) (by rw [h1];rfl)]))
 ·have em:m=c.b7.aq.length:=ag
  subst em
  refine zE 2<|a7<|aP<|bp<|aK<|al<|zX (yH [(1,yV (ai ((↑i:Int)+1)))]) [yN ((↑i:Int)+1)] (aF (i+1) (by assumption) ag (eX [.aa [4,2,0,1,7,5,6] [2]] [5,6] [] [yB (ai (↑(nT c j s c.b7.aq.length).fst:Int)=ai (↑(lx c k (i+1)).fst:Int)) (by rw [dC]),yB (ai (↑(nT c j s c.b7.aq.length).snd:Int)=ai (↑(lx c k (i+1)).snd:Int)) (by rw [dC])]))
def Ig (f:Nat->Int) (i:Nat) (v:Int):Nat->Int:=fun j=>if j=i then v else f j
def bz (e:dj) (nx:Nat->Int) (dN:Nat):Nat->dj×(Nat->Int)
 | 0=>(e,nx)
 | i+1=>if dN.testBit i=true∧mJ (bz e nx dN i).1 (dv i).name 4 ((bz e nx dN i).2 i)=0 then (qg (bz e nx dN i).1 (dv i).name (300+u64 i) 4 ((bz e nx dN i).2 i),Ig (bz e nx dN i).2 i ((bz e nx dN i).2 i+1)) else bz e nx dN i
theorem Oo (f:Nat->Int) {i:Nat} (h:i<10) (v:Int):(BE f).set i (ai v)=BE (Ig f i v):=by
 rcases i with _|_|_|_|_|_|_|_|_|_|i<;>first|rfl|omega
theorem Ju (l:List gW) (v:gW):(vC l v).length=l.length+1:=by
 have:=Fv l v.name
 unfold vC
 simp only [List.length_append,List.length_take,List.length_drop,List.length_cons,List.length_nil]
 omega
theorem NW {e:dj} (hB:l8 e) {n:List UInt8} {seed:UInt64} {h leaf:Int} (hq:mJ e n h leaf=0):l8 (qg e n seed h leaf)∧(qg e n seed h leaf).ak.length=e.ak.length+1:=by
 have cf:qg e n seed h leaf= {e with ak:=vC e.ak ⟨n,qo h leaf,pE seed h leaf (cO e),pD seed h leaf⟩}:=if_neg (fun q=>q hq)
 rw [cf]
 exact ⟨⟨hB.Sd,hB.dep⟩,Ju _ _⟩
theorem yU {e:dj} (hB:l8 e) (nx:Nat->Int) (dN:Nat):∀i,l8 (bz e nx dN i).1∧(bz e nx dN i).1.ak.length≤e.ak.length+i
 | 0=>⟨hB,Nat.le_refl _⟩
 | i+1=>by
  obtain ⟨h1,h2⟩:=yU hB nx dN i
  unfold bz
  split
  ·rename_i q
   obtain ⟨h3,h4⟩:=NW (seed:=300+u64 i) h1 q.2
   exact ⟨h3,by show (qg _ _ _ _ _).ak.length≤_;omega⟩
  ·exact ⟨h1,ag⟩
theorem AR {e:dj} {n:List UInt8} {leaf:Int} (h:mJ e n 4 leaf=0):0≤leaf∧leaf<16:=by
 have hs:Bc 4 leaf=0:=by
  unfold mJ at h
  split at h
  ·rename_i q;exact absurd h q
  split at h
  ·omega
  ·exact h
 have nb:¬iV 4 leaf:=by
  intro q;unfold Bc at hs;rw [if_pos q] at hs;omega
 unfold iV at nb
 have:(2:Nat)^(4:Int).toNat=16:=rfl
 omega
theorem N7 {w i:Nat} (hw:w<1024) (hi:i<10):IntKind.i64.wrap ((BitVec.ofInt IntKind.i64.bits ((w/2^i:Nat):Int)&&&BitVec.ofInt IntKind.i64.bits 1).toNat:Nat)=if w.testBit i=true then 1 else 0:=by
 rw [BitVec.toNat_and,BitVec.toNat_ofInt,BitVec.toNat_ofInt,show ((1:Int)%((2^IntKind.i64.bits:Nat):Int)).toNat=1 by rfl]
 have hq:w/2^i<1024:=Nat.lt_of_le_of_lt (Nat.div_le_self _ _) hw
 rw [Nat.testBit_eq_decide_div_mod_eq]
 generalize w/2^i=q at *
 rw [show (((q:Nat):Int)%((2^IntKind.i64.bits:Nat):Int)).toNat=q by show (((q:Nat):Int)%18446744073709551616).toNat=_;omega]
 rw [Nat.and_one_is_mod]
 have:q%2<2:=Nat.mod_lt _ (by decide)
 by_cases c:q%2=1
 ·rw [c];decide
 ·rw [show q%2=0 by omega];decide
theorem LF (w:Nat) {i:Nat} (hi:i<10):((w:Nat):Int).fdiv (2^min ((i:Nat):Int).toNat IntKind.i64.bits)=((w/2^i:Nat):Int):=by
 rw [show min ((i:Nat):Int).toNat IntKind.i64.bits=i from Nat.min_eq_left (by show i≤64;omega),Int.fdiv_eq_ediv_of_nonneg _ (Int.pow_nonneg (by decide))]
 push_cast
 rfl
theorem Dc (lH:∀e,l8 e->bA Tryz.prog 40 [.agg (aG e)] (.b_ [.own 1 (ah (dM e)),ai (eO e)])) (c:rA) (e:dj) (dN:Nat) (hw:dN<1024) (hB:l8 e) (hv:e.ak.length≤900000):bA Tryz.prog 22 [.agg (ll c),.agg (aG e),ai dN] (.b_ [.agg (aG (bz e c.nx dN 10).1),.arr (BE (bz e c.nx dN 10).2)]):=by
 refine zO Tryz.func22 48<|zP 2 [yH [(3,yV (AV.arr (ax (List.replicate 10 (0:Int)))))],yH [(1,yV (AV.agg [ai (c.nx 0),ai (c.nx 1),ai (c.nx 2),ai (c.nx 3),ai (c.nx 4),ai (c.nx 5),ai (c.nx 6),ai (c.nx 7),ai (c.nx 8),ai (c.nx 9)])),(2,yV (AV.arr (ax (List.replicate 10 (0:Int)))))]] [.aa [8,7,6,4,3,0,1,2] [8,7,6,4,3]] [yR (ax (List.replicate 10 (0:Int))),yR (List.take 10 (List.drop 6 (List.map (aH 7) (List.map (aH 6) (List.map (aH 4) (List.map (aH 3) (ll c))))))),yR 10,yR (ax (List.replicate 10 (0:Int))),yL 10 10]<|zS<|zq<|zB 0 (zL (fun (i:Nat)=>(⟨[(8,AV.addr 8 0),(7,AV.addr 7 0),(6,AV.addr 6 0),(4,AV.addr 4 0),(3,AV.addr 3 0),(0,AV.agg [ai c.b7.aC,aw c.b7.head,ai c.b7.bm,AV.sl 4 (ae aN c.b7.aq),AV.sl 7 (ae bk c.b7.aR),AV.sl 17 (ae aG c.log),ai (c.nx 0),ai (c.nx 1),ai (c.nx 2),ai (c.nx 3),ai (c.nx 4),ai (c.nx 5),ai (c.nx 6),ai (c.nx 7),ai (c.nx 8),ai (c.nx 9)]),(1,AV.agg (aG e)),(2,ai ↑dN),(9,ai i)],[(7,⟨1,true,true,ax (List.replicate 10 (0:Int))⟩),(6,⟨1,false,true,[ai 0,dY,ai 0,AV.val (Value.string (ByteArray.mk #[])),ai 0,dY,ai 0,dY,dY,AV.nil,AV.nil,AV.nil,ai 0,dY,dY,dY,AV.nil]⟩),(3,⟨1,false,true,List.map (aH 8) (List.map (aH 7) (List.map (aH 6) (List.map (aH 4) (List.map (aH 3) (ll c)))))⟩),(4,⟨1,false,true,aG (bz e c.nx dN i).1⟩),(8,⟨1,true,true,BE (bz e c.nx dN i).2⟩)]⟩:AS)) (fun i=>(i≤10)) (fun i=>(10-i)) (0) ?_ (zW [.aa [8,7,6,4,3,0,1,2,9] [7,6,3,4,8]]) ?_)
 ·omega
 intro i hi
 obtain ⟨b1,b2⟩:=yU hB c.nx dN i
 refine zS<|bf.nQ 1 [{}] bC (s':=AS.mk [(15,ao (decide ((↑i:Int)<10))),(14,ai ↑i),(8,AV.addr 8 0),(7,AV.addr 7 0),(6,AV.addr 6 0),(4,AV.addr 4 0),(3,AV.addr 3 0),(0,AV.agg [ai c.b7.aC,aw c.b7.head,ai c.b7.bm,AV.sl 4 (ae aN c.b7.aq),AV.sl 7 (ae bk c.b7.aR),AV.sl 17 (ae aG c.log),ai (c.nx 0),ai (c.nx 1),ai (c.nx 2),ai (c.nx 3),ai (c.nx 4),ai (c.nx 5),ai (c.nx 6),ai (c.nx 7),ai (c.nx 8),ai (c.nx 9)]),(1,AV.agg (aG e)),(2,ai ↑dN),(9,ai ↑i)] [(7,Row.mk 1 true true (ax (List.replicate 10 (0:Int)))),(6,Row.mk 1 false true [ai 0,dY,ai 0,AV.val (Value.string (ByteArray.mk #[])),ai 0,dY,ai 0,dY,dY,AV.nil,AV.nil,AV.nil,ai 0,dY,dY,dY,AV.nil]),(3,Row.mk 1 false true (List.map (aH 8) (List.map (aH 7) (List.map (aH 6) (List.map (aH 4) (List.map (aH 3) (ll c))))))),(4,Row.mk 1 false true (aG (bz e c.nx dN i).fst)),(8,Row.mk 1 true true (BE (bz e c.nx dN i).snd))]) (C:=[]) bC trivial (zD 15 ((↑i:Int)<10) (fun q=>?_) (fun q=>?_))
 ·have dc:i<10:=ag
  have RD:=lH _ b1
  have qf:=fC i dc
  have rB:=Bq (bz e c.nx dN i).1 (dv i).name (300+u64 i) 4 ((bz e c.nx dN i).2 i) ag RD
  have Nr:=QH (bz e c.nx dN i).2 dc
  have V6:=Oo (bz e c.nx dN i).2 dc ((bz e c.nx dN i).2 i+1)
  have OA:IntKind.u64.wrap ((i:Nat):Int)=(i:Int):=by rw [IntKind.wrap_u64];omega
  have G6:=LF dN dc
  have QY:=N7 hw dc
  have dC:bz e c.nx dN (i+1)=if dN.testBit i=true∧mJ (bz e c.nx dN i).1 (dv i).name 4 ((bz e c.nx dN i).2 i)=0 then (qg (bz e c.nx dN i).1 (dv i).name (300+u64 i) 4 ((bz e c.nx dN i).2 i),Ig (bz e c.nx dN i).2 i ((bz e c.nx dN i).2 i+1)) else bz e c.nx dN i:=rfl
  generalize bz e c.nx dN i=S at *
  clear lH RD
  by_cases tb:dN.testBit i=true
  case neg =>
   rw [if_neg tb] at QY
   rw [if_neg (fun q=>tb q.1)] at dC
   refine a6<|zS<|zB 1<|zS<|zP 1 [yH [(2,yV (AV.val (Value.int .u64 (↑i:Int)))),(3,yV (ai (↑(dN/(2:Nat)^i):Int))),(4,yV (ai 0))]] [.aa [23,15,8,7,6,4,3,0,1,2,9] [7,6,3,4,8]] [yI (yd OA),yI (yc G6),yO ((0:Int)≤(↑i:Int)),yI (yc QY)]<|du 23 ((0:Int) == (0:Int)) fh<|zE 1<|a7<|bp<|al<|zX (yH [(1,yV (ai ((↑i:Int)+1)))]) [yN ((↑i:Int)+1)] (aF (i+1) (by assumption) ag (eX [.aa [8,7,6,4,3,0,1,2,9] [7,6,3,4,8]] [] [4,8] [yB (aG S.fst=aG (bz e c.nx dN (i+1)).fst) (by rw [dC]),yB (BE S.snd=BE (bz e c.nx dN (i+1)).snd) (by rw [dC])]))
  rw [if_pos tb] at QY
  by_cases cq:mJ S.1 (dv i).name 4 (S.2 i)=0
  case neg =>
   rw [if_neg (fun q=>cq q.2)] at dC
   have PY:C3 S.1 (dv i).name (300+u64 i) 4 (S.2 i)=AM:=if_neg cq
   rw [PY] at rB
   refine a6<|zS<|zB 1<|zS<|zP 1 [yH [(2,yV (AV.val (Value.int .u64 (↑i:Int)))),(3,yV (ai (↑(dN/(2:Nat)^i):Int))),(4,yV (ai 1)),(5,yV (ao false))]] [.aa [23,15,8,7,6,4,3,0,1,2,9] [7,6,3,4,8]] [yI (yd OA),yI (yc G6),yB ((0:Int)≤(↑i:Int)) (by simp [cq]),yI (yc QY),yR (ao false)]<|zF 23<|a6<|zS<|yw 16 [14,15] [(2,yC qf),(5,yV (aw (u64 (↑i:Int)))),(6,yV (aw (300+u64 (↑i:Int)))),(8,{k:=i}),(9,yV (ai (S.snd i))),(10,yC rB)] ([yI qf,yI (a8 ((↑i:Int))),yR (aw (300+u64 (↑i:Int))),yR (↑i:Int),yI dc,yI Nr,yI rB,yR (AV.agg (aG S.fst)),yR (ai ↑i),yR (AV.agg (aN (dv i))),yI qf,yR (di (dv i).name),yR (ai ↑i),yR (aw (u64 (↑i:Int))),yI (a8 ((↑i:Int)))]++yM 2 (yR (aw (300+u64 (↑i:Int))))++ [yR (ai ↑i),yR (AV.addr 8 i),yR (↑i:Int),yI dc,yR (ai (S.snd i)),yI Nr,yR (AV.b_ [AV.agg [ai 0,aw 0,ai 0,AV.val (Value.string (ByteArray.mk #[])),ai 0,aw 0,ai 0,aw 0,aw 0,AV.nil,AV.nil,AV.nil,ai 0,aw 0,aw 0,aw 0,AV.nil],ai (mJ S.fst (dv i).name (4:Int) (S.snd i))]),yI rB,yR (AV.b_ [AV.agg [ai 0,aw 0,ai 0,AV.val (Value.string (ByteArray.mk #[])),ai 0,aw 0,ai 0,aw 0,aw 0,AV.nil,AV.nil,AV.nil,ai 0,aw 0,aw 0,aw 0,AV.nil],ai (mJ S.fst (dv i).name (4:Int) (S.snd i))]),yR (AV.agg [ai 0,aw 0,ai 0,AV.val (Value.string (ByteArray.mk #[])),ai 0,aw 0,ai 0,aw 0,aw 0,AV.nil,AV.nil,AV.nil,ai 0,aw 0,aw 0,aw 0,AV.nil]),yR (ai (mJ S.fst (dv i).name (4:Int) (S.snd i))),yL 17 17,yR (ai (mJ S.fst (dv i).name (4:Int) (S.snd i)))])<|al<|bf.tD [.aa [11,32,10,23,15,8,7,6,4,3,0,1,2,9] [10,7,6,3,4,8]] bC<|zP 1 [yH [(1,yV (ao false))]] [.aa [39,11,32,10,23,15,8,7,6,4,3,0,1,2,9] [10,7,6,3,4,8]] [yB (ao (mJ S.fst (dv i).name (4:Int) (S.snd i) == (0:Int))=ao false) (by simp [cq])]<|zF 39<|zK<|aK<|al<|zX (yH [(1,yV (ai ((↑i:Int)+1)))]) [yN ((↑i:Int)+1)] (aF (i+1) (by assumption) ag (eX [.aa [8,7,6,4,3,0,1,2,9] [7,6,3,4,8]] [] [4,8] [yB (List.map (aH 10) (List.map (aH 10) (aG S.fst))=aG (bz e c.nx dN (i+1)).fst) (by rw [dC];rfl),yB (BE S.snd=BE (bz e c.nx dN (i+1)).snd) (by rw [dC])]))
  rw [if_pos ⟨tb,cq⟩] at dC
  have hl:=AR cq
  have PY:C3 S.1 (dv i).name (300+u64 i) 4 (S.2 i)=aG (qg S.1 (dv i).name (300+u64 i) 4 (S.2 i)):=if_pos cq
  rw [PY,cq] at rB
  have V3:IntKind.i64.wrap (S.2 i+1)=S.2 i+1:=by rw [IntKind.wrap_i64];omega
  generalize qg S.1 (dv i).name (300+u64 i) 4 (S.2 i)=F at *
  refine a6<|zS<|zB 1<|zS<|zP 1 [yH [(2,yV (AV.val (Value.int .u64 (↑i:Int)))),(3,yV (ai (↑(dN/(2:Nat)^i):Int))),(4,yV (ai 1))]] [.aa [23,15,8,7,6,4,3,0,1,2,9] [7,6,3,4,8]] [yI (yd OA),yI (yc G6),yO ((0:Int)≤(↑i:Int)),yI (yc QY)]<|bj 23 ((1:Int) == (0:Int)) bx<|a6<|zS<|yw 16 [14,15] [(2,yC qf),(5,yV (aw (u64 (↑i:Int)))),(6,yV (aw (300+u64 (↑i:Int)))),(8,{k:=i}),(9,yV (ai (S.snd i))),(10,yD rB)] ([yI qf,yI (a8 ((↑i:Int))),yR (aw (300+u64 (↑i:Int))),yR (↑i:Int),yI dc,yI Nr,yI rB,yR (AV.agg (aG S.fst)),yR (ai ↑i),yR (AV.agg (aN (dv i))),yI qf,yR (di (dv i).name),yR (ai ↑i),yR (aw (u64 (↑i:Int))),yI (a8 ((↑i:Int)))]++yM 2 (yR (aw (300+u64 (↑i:Int))))++ [yR (ai ↑i),yR (AV.addr 8 i),yR (↑i:Int),yI dc,yR (ai (S.snd i)),yI Nr,yR (AV.b_ [AV.agg (aG F),ai 0]),yI rB,yR (AV.b_ [AV.agg (aG F),ai 0]),yR (AV.agg (aG F)),yR (ai 0),yL 17 17,yR (ai 0)])<|al<|bf.tD [.aa [11,32,10,23,15,8,7,6,4,3,0,1,2,9] [10,7,6,3,4,8]] bC<|zq<|du 39 ((0:Int) == (0:Int)) fh<|zP 1 [{}] [.aa [39,11,32,10,23,15,8,7,6,4,3,0,1,2,9] [4,10,7,6,3,8]] [yL 17 17]<|zX (yH [(1,{k:=i}),(2,yV (ai (S.snd i))),(3,yV (ai (S.snd i+1))),(4,{k:=i}),(5,yV (AV.arr (BE (Ig S.snd i (S.snd i+1)))))]) [yR (↑i:Int),yI dc,yI Nr,yN (S.snd i+1),yR (↑i:Int),yI dc,yI V6,yB (i+1≤10) (by assumption)]<|aK<|al<|zX (yH [(1,yV (ai ((↑i:Int)+1)))]) [yN ((↑i:Int)+1)] (aF (i+1) (by assumption) ag (eX [.aa [8,7,6,4,3,0,1,2,9] [7,6,3,4,8]] [] [4,8] [yB (List.map (aH 10) (List.take 0 (List.map (aH 10) (aG S.fst))++(aG F)++List.drop 17 (List.map (aH 10) (aG S.fst)))=aG (bz e c.nx dN (i+1)).fst) (by rw [dC];rfl),yB (BE (Ig S.snd i (S.snd i+1))=BE (bz e c.nx dN (i+1)).snd) (by rw [dC])]))
 ·have ei:i=10:=ag
  subst ei
  refine zE 0<|a7<|aP<|bp<|al<|zS<|yw 3 [2] [(0,yV (AV.agg [ai ((bz e c.nx dN 10).fst.aC),aw ((bz e c.nx dN 10).fst.prev),ai ((bz e c.nx dN 10).fst.kind),di (bz e c.nx dN 10).fst.name,ai ((bz e c.nx dN 10).fst.kh),aw ((bz e c.nx dN 10).fst.kr),ai ((bz e c.nx dN 10).fst.bm),aw ((bz e c.nx dN 10).fst.dep.cm),aw ((bz e c.nx dN 10).fst.dep.peer),AV.sl 1 (ah (bz e c.nx dN 10).fst.dep.box),AV.sl 1 (ae au (bz e c.nx dN 10).fst.dep.af),AV.sl 1 (aj (bz e c.nx dN 10).fst.dep.ay),ai ((bz e c.nx dN 10).fst.dep.need),aw ((bz e c.nx dN 10).fst.dep.target),aw ((bz e c.nx dN 10).fst.cm),aw ((bz e c.nx dN 10).fst.target),AV.sl 4 (ae aW (bz e c.nx dN 10).fst.ak)])),(1,yV (AV.agg [ai ((bz e c.nx dN 10).snd 0),ai ((bz e c.nx dN 10).snd 1),ai ((bz e c.nx dN 10).snd 2),ai ((bz e c.nx dN 10).snd 3),ai ((bz e c.nx dN 10).snd 4),ai ((bz e c.nx dN 10).snd 5),ai ((bz e c.nx dN 10).snd 6),ai ((bz e c.nx dN 10).snd 7),ai ((bz e c.nx dN 10).snd 8),ai ((bz e c.nx dN 10).snd 9)]))] [yR (List.take 17 (List.drop 0 (aG (bz e c.nx dN 10).fst))),yR 17,yR (List.take 10 (List.drop 0 (BE (bz e c.nx dN 10).snd))),yR 10,yL 17 17,yR (AV.agg [ai ((bz e c.nx dN 10).snd 0),ai ((bz e c.nx dN 10).snd 1),ai ((bz e c.nx dN 10).snd 2),ai ((bz e c.nx dN 10).snd 3),ai ((bz e c.nx dN 10).snd 4),ai ((bz e c.nx dN 10).snd 5),ai ((bz e c.nx dN 10).snd 6),ai ((bz e c.nx dN 10).snd 7),ai ((bz e c.nx dN 10).snd 8),ai ((bz e c.nx dN 10).snd 9)]),yR (List.take 10 (List.drop 0 (BE (bz e c.nx dN 10).snd))),yR 10,yL 10 10]<|al<|bf.tD [.aa [15,8,7,6,4,3,0,1,2,9] [7,6,3,4,8]] bC<|zR (zV [yR 10,yR (Value.int .i64 (bz e c.nx dN 10).fst.aC),yR (Value.int .u64 (wv (bz e c.nx dN 10).fst.prev)),yR (Value.int .i64 (bz e c.nx dN 10).fst.kind),yR (Value.string (ByteArray.mk (bz e c.nx dN 10).fst.name.toArray)),yR (Value.int .i64 (bz e c.nx dN 10).fst.kh),yR (Value.int .u64 (wv (bz e c.nx dN 10).fst.kr)),yR (Value.int .i64 (bz e c.nx dN 10).fst.bm),yR (Value.int .u64 (wv (bz e c.nx dN 10).fst.dep.cm)),yR (Value.int .u64 (wv (bz e c.nx dN 10).fst.dep.peer)),yR (ah (bz e c.nx dN 10).fst.dep.box),yR (ae au (bz e c.nx dN 10).fst.dep.af),yR (aj (bz e c.nx dN 10).fst.dep.ay),yR (Value.int .i64 (bz e c.nx dN 10).fst.dep.need),yR (Value.int .u64 (wv (bz e c.nx dN 10).fst.dep.target)),yR (Value.int .u64 (wv (bz e c.nx dN 10).fst.cm)),yR (Value.int .u64 (wv (bz e c.nx dN 10).fst.target)),yR (ae aW (bz e c.nx dN 10).fst.ak),yR (BE (bz e c.nx dN 10).snd)])
end Go.Proofs.YtjgbhhnghedgdaaGreatDoor
