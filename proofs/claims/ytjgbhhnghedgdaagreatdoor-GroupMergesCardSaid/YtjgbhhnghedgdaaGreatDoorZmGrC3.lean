import Derived.Test.YtjgbhhnghedgdaaGreatDoorZmGrC2
set_option linter.all false
namespace Go.Proofs.YtjgbhhnghedgdaaGreatDoor
open Go.RowKit
set_option maxRecDepth 100000
set_option maxHeartbeats 4000000
theorem FW (l:List gb) (n:List UInt8) {i:Nat} (h:i<l.length):A4 (l.take (i+1)) n=if OH (l.getD i default).name n=true∧A4 (l.take i) n=i then i+1 else A4 (l.take i) n:=by
 unfold A4
 rw [List.take_add_one,List.getD_eq_getElem?_getD,List.getElem?_eq_getElem h,List.takeWhile_append,List.length_take,Nat.min_eq_left ah]
 by_cases c:(List.takeWhile (fun v:gb=>OH v.name n) (l.take i)).length=i
 ·rw [if_pos c]
  by_cases c2:OH l[i].name n=true
  ·rw [if_pos ⟨c2,c⟩]
   simp [c2];omega
  ·rw [if_neg (fun q=>c2 q.1)]
   simp [c2];omega
 ·rw [if_neg c,if_neg (fun q=>c q.2)]
theorem EF (l:List gb) (n:List UInt8):A4 l n≤l.length:=(List.takeWhile_sublist _).length_le
theorem zp {l:List gb} {n:List UInt8} (h:∀j,j<l.length->(l.getD j default).name≠n):lL l n=false:=by
 unfold lL
 rw [List.any_eq_false]
 intro v hv
 obtain ⟨j,hj,rfl⟩:=List.mem_iff_getElem.1 hv
 have:=h j hj
 rw [List.getD_eq_getElem?_getD,List.getElem?_eq_getElem hj] at this
 simpa using this
theorem zr {l:List gb} {n:List UInt8} {i:Nat} (hi:i<l.length) (e:(l.getD i default).name=n):lL l n=true:=by
 unfold lL
 rw [List.any_eq_true]
 rw [List.getD_eq_getElem?_getD,List.getElem?_eq_getElem hi] at e
 exact ⟨_,List.getElem_mem hi,by simpa using e⟩
def Aa:List AV:=[ai 0,aw 0,ai 0,cQ [],ai 0,aw 0,ai 0,aw 0,aw 0,.nil,.nil,.nil,ai 0,aw 0,aw 0,aw 0,.nil]
def Cm (e:dP) (n:List UInt8) (seed:UInt64) (h leaf:Int):List AV:=if lS e n h leaf=0 then aI (tO e n seed h leaf) else Aa
theorem AM (e:dP) (n:List UInt8) (seed:UInt64) (h leaf:Int) (hv:e.aq.length≤1000000) (nn:bC Tryz.prog 40 [.agg (aI e)] (.bk [.own 1 (ag (bN e)),ai (dH e)])):bC Tryz.prog 26 [.agg (aI e),cQ n,aw seed,ai h,ai leaf] (.bk [.agg (Cm e n seed h leaf),ai (lS e n h leaf)]):=by
 have yx:(ae aU e.aq).length=e.aq.length*4:=aE (e:=4) (fun _=>rfl) ..
 by_cases cb:dH e=0
 case neg =>
  have ce:lS e n h leaf=dH e:=if_pos cb
  have cf:Cm e n seed h leaf=Aa:=if_neg (by rw [ce];exact cb)
  rw [cf,ce]
  refine zO Tryz.func26 89<|zP 2 [{},yH [(1,yV (AV.bk [AV.own 1 (ag (bN e)),ai (dH e)]))]] [.aa [13,12,11,10,5,0,1,2,3,4] [1020,10,5]] [yI nn,yI (aP (bN e))]<|zS<|zQ 1 [yH [(1,yV (ao true))]] [yB (ao (dH e != (0:Int))=ao true) (by simp [cb])]<|zT 24<|zP 1 [{}] [.aa [11,24,13,12,10,5,0,1,2,3,4] [10,1020,5]] [yL 17 17]<|dd (bL)
 have lJ:=qq e cb
 rw [cb] at nn
 have Li:=oR (bN e) ah
 rw [show hash 16 (bN e)=di e from rfl] at Li
 refine zO Tryz.func26 89<|zP 2 [{},yH [(1,yV (AV.bk [AV.own 1 (ag (bN e)),ai 0]))]] [.aa [13,12,11,10,5,0,1,2,3,4] [1020,10,5]] [yI nn,yI (aP (bN e))]<|zS<|zq<|zF 24<|aW<|zq<|zS<|zq<|zB 0 (zL (fun (p:Nat×Nat)=>(⟨[(24,ao ((0:Int) != (0:Int))),(13,ai 0),(12,AV.ref 1020),(10,AV.addr 10 0),(5,AV.addr 5 0),(0,AV.agg (aI e)),(1,cQ n),(2,aw seed),(3,ai h),(4,ai leaf),(15,ai p.1),(14,ai p.2)],[(1020,⟨1,true,false,ag (bN e)⟩),(10,⟨1,false,true,[ai 0,cN,ai 0,AV.val (Value.string (ByteArray.mk #[])),ai 0,cN,ai 0,cN,cN,AV.nil,AV.nil,AV.nil,ai 0,cN,cN,cN,AV.nil]⟩),(5,⟨1,false,true,List.map (aB 1020) (List.map (aB 10) (List.map (aB 5) (aI e)))⟩)]⟩:AS)) (fun p=>(p.1≤e.aq.length∧p.2=A4 (e.aq.take p.1) n∧ ∀j,j<p.1->(e.aq.getD j default).name≠n)) (fun p=>(e.aq.length-p.1)) ((0,0)) ?_ (zW [.aa [24,13,12,10,5,0,1,2,3,4,15,14] [1020,10,5]]) ?_)
 ·exact ⟨ah,rfl,ah⟩
 rintro ⟨i,a⟩ ⟨hi,ha,fM⟩
 simp only at hi ha fM
 refine zS<|zP 1 [yH [(3,{k:=e.aq.length})]] [.aa [31,24,13,12,10,5,0,1,2,3,4,15,14] [1020,10,5]] [yI yx] (zD 31 ((↑i:Int)<(↑e.aq.length:Int)) (fun q=>?_) (fun q=>?_))
 ·have cX:i<e.aq.length:=ah
  have gh:=jt cX
  have dC:=FW e.aq n cX
  by_cases cn:(e.aq.getD i default).name=n
  ·have hd:=zr cX cn
   have ce:lS e n h leaf=10:=by unfold lS;rw [if_neg (fun q=>q cb),if_pos hd]
   have cf:Cm e n seed h leaf=Aa:=if_neg ah
   rw [cf,ce]
   refine aW<|zS<|zB 1<|zS<|zP 1 [yH [(3,{k:=i}),(5,yV (cQ (e.aq.getD i default).name)),(7,yV (ao ((e.aq.getD i default).name == n)))]] [.aa [41,31,24,13,12,10,5,0,1,2,3,4,15,14] [1020,10,5]] [yR (↑i:Int),yO (i*4<(ae aU e.aq).length),yA aU e.aq i 0,yI (eU ((e.aq.getD i default).name) n)]<|dm 41 ((e.aq.getD i default).name == n) (by simp_all)<|zP 1 [{}] [.aa [11,41,31,24,13,12,10,5,0,1,2,3,4,15,14] [10,1020,5]] [yL 17 17]<|dd<|bc<|aN<|df<|bc<|aN (bL)
  by_cases cl:OH (e.aq.getD i default).name n=true
  ·by_cases ca:a=i
   ·rw [if_pos ⟨cl,ah⟩] at dC
    have WX:((a:Int) == (i:Int))=true:=beq_iff_eq.2 ah
    clear ha ca
    refine aW<|zS<|zB 1<|zS<|zP 1 [yH [(3,{k:=i}),(5,yV (cQ (e.aq.getD i default).name)),(7,yV (ao ((e.aq.getD i default).name == n)))]] [.aa [41,31,24,13,12,10,5,0,1,2,3,4,15,14] [1020,10,5]] [yR (↑i:Int),yO (i*4<(ae aU e.aq).length),yA aU e.aq i 0,yI (eU ((e.aq.getD i default).name) n)]<|bj 41 ((e.aq.getD i default).name == n) (by simp_all)<|aW<|zP 1 [yH [(3,{k:=i}),(5,yV (cQ (e.aq.getD i default).name))]] [.aa [55,41,31,24,13,12,10,5,0,1,2,3,4,15,14] [1020,10,5]] ([yR (↑i:Int),yO (i*4<(ae aU e.aq).length),yA aU e.aq i 0]++yM 4 (yB (Op.bytesLess (ByteArray.mk (e.aq.getD i default).name.toArray).toList (ByteArray.mk n.toArray).toList=true) (by assumption)))<|dm 55 ((↑a:Int) == (↑i:Int)) (by assumption)<|zX (yH [(1,yV (ai ((↑i:Int)+1)))]) [yN ((↑i:Int)+1)]<|aM<|ak<|zX (yH [(1,yV (ai ((↑i:Int)+1)))]) [yN ((↑i:Int)+1)] (aH (i+1,i+1) ⟨ah,by show i+1=_;rw [dC],fun j hj=>by by_cases e2:j=i;(subst e2;exact cn);exact fM j ah⟩ ah (zW [.aa [24,13,12,10,5,0,1,2,3,4,15,14] [1020,10,5]]))
   ·rw [if_neg (fun q=>ca ah)] at dC
    refine aW<|zS<|zB 1<|zS<|zP 1 [yH [(3,{k:=i}),(5,yV (cQ (e.aq.getD i default).name)),(7,yV (ao ((e.aq.getD i default).name == n)))]] [.aa [41,31,24,13,12,10,5,0,1,2,3,4,15,14] [1020,10,5]] [yR (↑i:Int),yO (i*4<(ae aU e.aq).length),yA aU e.aq i 0,yI (eU ((e.aq.getD i default).name) n)]<|bj 41 ((e.aq.getD i default).name == n) (by simp_all)<|aW<|zP 1 [yH [(3,{k:=i}),(5,yV (cQ (e.aq.getD i default).name))]] [.aa [55,41,31,24,13,12,10,5,0,1,2,3,4,15,14] [1020,10,5]] ([yR (↑i:Int),yO (i*4<(ae aU e.aq).length),yA aU e.aq i 0]++yM 4 (yB (Op.bytesLess (ByteArray.mk (e.aq.getD i default).name.toArray).toList (ByteArray.mk n.toArray).toList=true) (by assumption)))<|bj 55 ((↑a:Int) == (↑i:Int)) bD<|zK<|aM<|ak<|zX (yH [(1,yV (ai ((↑i:Int)+1)))]) [yN ((↑i:Int)+1)] (aH (i+1,a) ⟨ah,by show a=_;rw [dC,ha],fun j hj=>by by_cases e2:j=i;(subst e2;exact cn);exact fM j ah⟩ ah (zW [.aa [24,13,12,10,5,0,1,2,3,4,15,14] [1020,10,5]]))
  ·rw [if_neg (fun q=>cl q.1)] at dC
   have WW:OH (e.aq.getD i default).name n=false:=by simpa using cl
   refine aW<|zS<|zB 1<|zS<|zP 1 [yH [(3,{k:=i}),(5,yV (cQ (e.aq.getD i default).name)),(7,yV (ao ((e.aq.getD i default).name == n)))]] [.aa [41,31,24,13,12,10,5,0,1,2,3,4,15,14] [1020,10,5]] [yR (↑i:Int),yO (i*4<(ae aU e.aq).length),yA aU e.aq i 0,yI (eU ((e.aq.getD i default).name) n)]<|bj 41 ((e.aq.getD i default).name == n) (by simp_all)<|aW<|zP 1 [yH ([(3,{k:=i}),(5,yV (cQ (e.aq.getD i default).name)),(12,{b:=false})]++yg [9,10,11])] [.aa [55,41,31,24,13,12,10,5,0,1,2,3,4,15,14] [1020,10,5]] ([yR (↑i:Int),yO (i*4<(ae aU e.aq).length),yA aU e.aq i 0]++yM 4 (yB (Op.bytesLess (ByteArray.mk (e.aq.getD i default).name.toArray).toList (ByteArray.mk n.toArray).toList=false) (by assumption)))<|zF 55<|zK<|aM<|ak<|zX (yH [(1,yV (ai ((↑i:Int)+1)))]) [yN ((↑i:Int)+1)] (aH (i+1,a) ⟨ah,by show a=_;rw [dC,ha],fun j hj=>by by_cases e2:j=i;(subst e2;exact cn);exact fM j ah⟩ ah (zW [.aa [24,13,12,10,5,0,1,2,3,4,15,14] [1020,10,5]]))
 ·have ei:i=e.aq.length:=ah
  subst ei
  rw [List.take_length] at ha
  have hd:=zp fM
  have hq:lS e n h leaf=wS h leaf:=by unfold lS;rw [if_neg (fun q=>q cb),if_neg (by rw [hd];decide)]
  by_cases cs:wS h leaf=0
  case neg =>
   have cf:Cm e n seed h leaf=Aa:=if_neg (by rw [hq];exact cs)
   rw [cf,hq]
   refine zE 0<|aS<|aK<|bg<|ak<|zP 1 [yH [(4,yV (aw (di e))),(5,yV (AV.bk [AV.agg [ai (pa h leaf),AV.own 1 (aj (oG seed h leaf (di e))),AV.own 1 (aj (oF seed h leaf))],ai (wS h leaf)]))]] [.aa [13,16,31,24,12,10,5,0,1,2,3,4,15,14] [16,301064,201064,1020,10,5]] [yI Li,yI (sf seed h leaf (di e)),yB (lr (aj (oG seed h leaf (di e)))) (gv _),yB (lr (aj (oF seed h leaf))) (gv _),yL 3 3]<|zS<|zQ 1 [yH [(1,yV (ao true))]] [yB (ao (wS h leaf != (0:Int))=ao true) (by simp [cs])]<|zT 68<|zP 1 [{}] [.aa [11,68,13,16,31,24,12,10,5,0,1,2,3,4,15,14] [10,16,301064,201064,1020,5]] [yL 17 17]<|dd (bL)
  have cr:Cm e n seed h leaf=aI (tO e n seed h leaf):=if_pos (by rw [hq];exact cs)
  have cf:tO e n seed h leaf= {e with aq:=Bh e.aq ⟨n,pa h leaf,oG seed h leaf (di e),oF seed h leaf⟩}:=if_neg (by rw [hq];exact fun q=>q cs)
  rw [cr,hq,cf,cs]
  have vO:=EF e.aq n
  have oY:cE (ae aU e.aq):=dD (fun x=>dL rfl) _
  have s1:ae aU (e.aq.take a)++aU ⟨n,pa h leaf,oG seed h leaf (di e),oF seed h leaf⟩=ae aU (e.aq.take a++ [⟨n,pa h leaf,oG seed h leaf (di e),oF seed h leaf⟩]):=fh _ _
  have s2:ae aU (e.aq.take a++ [⟨n,pa h leaf,oG seed h leaf (di e),oF seed h leaf⟩])++(ae aU e.aq).drop (a*4)=ae aU (Bh e.aq ⟨n,pa h leaf,oG seed h leaf (di e),oF seed h leaf⟩):=by rw [mc (e:=4) (fun _=>rfl),fG];unfold Bh;rw [ha]
  have s0:(ae aU e.aq).take (a*4)=ae aU (e.aq.take a):=oy (e:=4) (fun _=>rfl) _ _
  have P2:cE ((ae aU e.aq).take (a*4)):=fun x hx=>oY x (List.mem_of_mem_take hx)
  have OO:cE ((ae aU e.aq).drop (a*4)):=fun x hx=>oY x (List.mem_of_mem_drop hx)
  refine zE 0<|aS<|aK<|bg<|ak<|zP 1 [yH [(4,yV (aw (di e))),(5,yV (AV.bk [AV.agg [ai (pa h leaf),AV.own 1 (aj (oG seed h leaf (di e))),AV.own 1 (aj (oF seed h leaf))],ai (wS h leaf)]))]] [.aa [13,16,31,24,12,10,5,0,1,2,3,4,15,14] [16,301064,201064,1020,10,5]] [yI Li,yI (sf seed h leaf (di e)),yB (lr (aj (oG seed h leaf (di e)))) (gv _),yB (lr (aj (oF seed h leaf))) (gv _),yL 3 3]<|zS<|zQ 1 [yH [(1,yV (ao false))]] [yB (ao (wS h leaf != (0:Int))=ao false) (by simp [cs])]<|zF 68<|aW<|bf.r9 [.gq 201064,.gq 301064] bt<|zS<|wz 9 [4] [(3,{m:=a}),(4,{av:=some (AV.arr (ae aU (List.take a e.aq))),b:=false}),(9,yV (AV.arr (ae aU (List.take a e.aq++ [gb.mk n (pa h leaf) (oG seed h leaf (di e)) (oF seed h leaf)]))))] [yR (↑a:Int),yO (a*4≤(ae aU e.aq).length),yI s0,yI P2,yB ((0+(List.take (a*4) (ae aU e.aq)).length)*72≤562949953421312) (by simp only [List.length_take];omega),yR (cQ n),yR (AV.agg [ai (pa h leaf),AV.sl 1 (aj (oG seed h leaf (di e))),AV.sl 1 (aj (oF seed h leaf))]),yR (AV.agg [cQ n,ai (pa h leaf),AV.sl 1 (aj (oG seed h leaf (di e))),AV.sl 1 (aj (oF seed h leaf))]),yR (AV.sl 4 [cQ n,ai (pa h leaf),AV.sl 1 (aj (oG seed h leaf (di e))),AV.sl 1 (aj (oF seed h leaf))]),yI s1,yB (((ae aU (List.take a e.aq)).length+4)*72≤562949953421312) (by simp only [List.length_take,aE (f:=aU) (e:=4) (fun _=>rfl)];omega)]<|ak<|zP 2 [yH [(4,{k:=a}),(5,{av:=some (AV.arr (ae aU (Bh e.aq (gb.mk n (pa h leaf) (oG seed h leaf (di e)) (oF seed h leaf))))),b:=false})],{}] [.aa [11,68,13,16,31,24,12,10,5,0,1,2,3,4,15,14] [10,5,86,16,1020]] [yR (↑a:Int),yO (a*4≤(ae aU e.aq).length),yI s2,yI OO,yB (((ae aU (List.take a e.aq++ [gb.mk n (pa h leaf) (oG seed h leaf (di e)) (oF seed h leaf)])).length+(List.drop (a*4) (ae aU e.aq)).length)*72≤562949953421312) (by simp only [List.length_append,List.length_cons,List.length_nil,List.length_take,List.length_drop,aE (f:=aU) (e:=4) (fun _=>rfl)];omega),yL 17 17,yL 17 17]<|bf.r9 [.gq 86] bt<|zR (bL)
def gW (l:List Int) (k:Nat) (n:Int):Nat:=if k<l.length then fL (l.getD k 0) n else 0
def dU (l:List Int) (k:Nat):Nat:=if k<l.length then k+1 else k
theorem yb (l:List Int):bC Tryz.prog 13 [.sl 1 (au l)] (.box [.sl 1 (au l),ai 0]):=by
 refine zO Tryz.func13 6<|zP 2 [{},{}] [.aa [2,0] [5]] []<|zR (bL)
theorem dF (l:List Int) (k:Nat) (n:Int) (hk:k≤l.length) (hl:l.length≤9223372036854775807) (h1:1≤n) (h2:n≤9223372036854775807):gm Tryz.prog 24 [.addr 1000000000000 0,ai n] [(1000000000000,⟨1,false,true,[.sl 1 (au l),ai k]⟩)] (ai (gW l k n)) [(1000000000000,⟨1,false,true,[.sl 1 (au l),ai (dU l k)]⟩)]:=by
 by_cases h:k<l.length
 ·have e1:gW l k n=fL (l.getD k 0) n:=if_pos h
  have e2:dU l k=k+1:=if_pos h
  have ew:IntKind.i64.wrap ((k:Int)+1)=((k+1:Nat):Int):=by rw [IntKind.wrap_i64];omega
  have ev:IntKind.i64.wrap (((k+1:Nat):Int)-1)=(k:Int):=by rw [IntKind.wrap_i64];omega
  rw [e1,e2]
  refine nj Tryz.func24 35<|zq<|zS<|zP 1 [{hs:=[(8,{k:=l.length})],T:=9}] [.aa [14,4,0,1] [1000000000000]] [yI (ks l)]<|dq 14 ((↑k:Int)≥(↑l.length:Int))<|aW<|zP 2 [yH [(4,yV (ai (↑(k+1):Int)))],{hs:=[(8,yV (ai ↑k)),(9,{k:=k}),(10,yV (ai (l.getD k (0:Int)))),(12,yV (ai (↑(fL (l.getD k (0:Int)) n):Int)))],T:=12}] [.aa [4,14,0,1] [1000000000000]] [yB (ai (IntKind.i64.wrap ((↑k:Int)+1))=ai (↑(k+1):Int)) (dE ah ah),yL 2 2,yI (yc ev),yR (↑k:Int),yB (k<(au l).length) (by simp only [ks];omega),yB ((au l)[k]?=some (ai (l.getD k (0:Int)))) (l5 ah),yI (ti (l.getD k (0:Int)) n h1 h2)]<|zR (zG [] [yR (Value.int .i64 (↑(fL (l.getD k (0:Int)) n):Int)),yR [AV.sl 1 (au l),ai (↑(k+1):Int)]])
 ·have e1:gW l k n=0:=if_neg h
  have e2:dU l k=k:=if_neg h
  rw [e1,e2]
  refine nj Tryz.func24 35<|zq<|zS<|zP 1 [{hs:=[(8,{k:=l.length})],T:=9}] [.aa [14,4,0,1] [1000000000000]] [yI (ks l)]<|gN 14 ((↑k:Int)≥(↑l.length:Int))<|zq<|dd (zG [] [yR (Value.int .i64 0),yR [AV.sl 1 (au l),ai ↑k]])
theorem dO {l:List Int} {k:Nat} (h:k≤l.length):dU l k≤l.length:=by unfold dU;split<;>omega
theorem lM (l:List Int) (k:Nat) {n:Int} (h:1≤n):(gW l k n:Int)<n:=by
 unfold gW
 split
 ·unfold fL
  have:=Int.emod_lt_of_pos (l.getD k 0%18446744073709551616) (ah:0<n)
  have:=Int.emod_nonneg (l.getD k 0%18446744073709551616) (ah:n≠0)
  omega
 ·omega
structure ta where
 bP:gp
 log:List dP
 nx:Nat->Int
def kY (c:ta):List AV:=[ai c.bP.aA,aw c.bP.head,ai c.bP.br,.sl 4 (ae aG c.bP.al),.sl 7 (ae a_ c.bP.aL),.sl 17 (ae aI c.log),ai (c.nx 0),ai (c.nx 1),ai (c.nx 2),ai (c.nx 3),ai (c.nx 4),ai (c.nx 5),ai (c.nx 6),ai (c.nx 7),ai (c.nx 8),ai (c.nx 9)]
def x_ (f:Nat->Int):List AV:=[ai (f 0),ai (f 1),ai (f 2),ai (f 3),ai (f 4),ai (f 5),ai (f 6),ai (f 7),ai (f 8),ai (f 9)]
def ld:ta:=⟨bH (dJ 0),[],fun _=>0⟩
theorem GZ:bC Tryz.prog 15 [] (.agg (kY ld)):=by
 have hm:=fP 0 ah
 have hn:=ui (dJ 0) (Nat.le_of_ble_eq_true rfl)
 unfold ld
 generalize bH (dJ 0)=G at *
 refine zO Tryz.func15 10<|zP 3 [{},yH [(0,yV (AV.agg (aG (dJ 0)))),(1,{av:=some (AV.bk [AV.agg [ai G.aA,aw G.head,ai G.br,AV.sl 4 (ae aG G.al),AV.own 7 (ae a_ G.aL)],ai (eY (dJ 0))]),b:=false})],{}] [.aa [1,0] [0,1,501005]] [yI hm,yI hn,yL 5 5,yL 16 16]<|bf.r9 [.gq 501005] bt<|bf.o7 (bU.Nd 0 [(5,17)] bt)<|zR (zV ([yR (Value.int .i64 G.aA),yR (Value.int .u64 (wv G.head)),yR (Value.int .i64 G.br),yR (ae aG G.al),yR (ae a_ G.aL),yB ([]=ae aI []) rfl]++yM 10 (yR (Value.int .i64 0))))
theorem F8 (l:List Int) (k:Nat) (hk:k≤l.length) (hl:l.length≤9223372036854775807):gm Tryz.prog 28 [.addr 1000000000000 0] [(1000000000000,⟨1,false,true,[.sl 1 (au l),ai k]⟩)] (ao (decide (k<l.length))) [(1000000000000,⟨1,false,true,[.sl 1 (au l),ai k]⟩)]:=by
 refine nj Tryz.func28 13<|zP 2 [{},{hs:=[(8,{k:=l.length})],T:=9}] [.aa [2,0] [1000000000000]] [yI (ks l)]<|zR (zG [] [yB (Value.bool (decide ((↑k:Int)<(↑l.length:Int)))=Value.bool (decide (k<l.length))) (by simp),yR [AV.sl 1 (au l),ai ↑k]])
def Pq (c:ta) (j:Nat) (m:Nat):Prop:=(c.bP.al.getD m default).name=(dJ j).name∧c.nx j<16
instance (c:ta) (j m:Nat):Decidable (Pq c j m):=inferInstanceAs (Decidable (_∧_))
def nB (c:ta) (j:Nat) (s:Nat×Nat):Nat->Nat×Nat
 | 0=>s
 | m+1=>if Pq c j m then ((nB c j s m).1|||2^j,(nB c j s m).2+1) else nB c j s m
def k_ (c:ta) (k:Nat):Nat->Nat×Nat
 | 0=>(0,0)
 | i+1=>if ((k_ c k i).2:Int)<c.bP.br then nB c (fL ((i:Int)+k) 10) (k_ c k i) c.bP.al.length else k_ c k i
def v8 (c:ta) (k:Nat):Nat:=(k_ c k 10).1
theorem Pv (f:Nat->Int) {j:Nat} (h:j<10):(x_ f)[j]?=some (ai (f j)):=by
 rcases j with _|_|_|_|_|_|_|_|_|_|j<;>first|rfl|omega
theorem CM (c:ta) {j:Nat} (hj:j<10) {s:Nat×Nat} (hs:s.1<1024):∀m,(nB c j s m).1<1024∧(nB c j s m).2≤s.2+m
 | 0=>⟨hs,Nat.le_refl _⟩
 | m+1=>by
  have ih:=CM c hj hs m
  unfold nB
  split
  ·refine ⟨Nat.or_lt_two_pow (n:=10) ih.1 (Nat.pow_lt_pow_right (by decide) hj),?_⟩
   show _+1≤_
   omega
  ·exact ⟨ih.1,ah⟩
theorem x7 (c:ta) (k:Nat):∀i,(k_ c k i).1<1024∧(k_ c k i).2≤i*c.bP.al.length
 | 0=>⟨Nat.zero_lt_succ _,Nat.zero_le _⟩
 | i+1=>by
  have ih:=x7 c k i
  unfold k_
  split
  ·have hj:=tj ((i:Int)+k) (n:=10) ah
   have:=CM c (j:=fL ((i:Int)+k) 10) ah ih.1 c.bP.al.length
   refine ⟨this.1,Nat.le_trans this.2 ?_⟩
   rw [Nat.succ_mul];omega
  ·refine ⟨ih.1,Nat.le_trans ih.2 ?_⟩
   rw [Nat.succ_mul];omega
theorem wY (c:ta) (k:Nat) {i:Nat} (h:¬((k_ c k i).2:Int)<c.bP.br):∀d,k_ c k (i+d)=k_ c k i
 | 0=>rfl
 | d+1=>by
  have ih:=wY c k h d
  show (if ((k_ c k (i+d)).2:Int)<c.bP.br then _ else k_ c k (i+d))=_
  rw [ih,if_neg h]
theorem Oi (c:ta) {j:Nat} (h:j<10):(kY c)[j+6]?=some (ai (c.nx j)):=by
 rcases j with _|_|_|_|_|_|_|_|_|_|j<;>first|rfl|omega
theorem M1 {j:Nat} (h:j<10):IntKind.i64.wrap (1*2^min ((j:Nat):Int).toNat IntKind.i64.bits)=((2^j:Nat):Int):=by
 have key:∀j:Fin 10,IntKind.i64.wrap (1*2^min ((j.val:Nat):Int).toNat IntKind.i64.bits)=((2^j.val:Nat):Int):=by decide
 exact key ⟨j,h⟩
theorem Na {a b:Nat} (ha:a<1024) (hb:b<1024):IntKind.i64.wrap ((BitVec.ofInt IntKind.i64.bits (a:Int)|||BitVec.ofInt IntKind.i64.bits (b:Int)).toNat:Nat)=((a|||b:Nat):Int):=by
 have dk:=Nat.or_lt_two_pow (n:=10) (x:=a) (y:=b) ha hb
 rw [BitVec.toNat_or,BitVec.toNat_ofInt,BitVec.toNat_ofInt,show ((a:Int)%((2^IntKind.i64.bits:Nat):Int)).toNat=a by show ((a:Int)%18446744073709551616).toNat=a;omega,show ((b:Int)%((2^IntKind.i64.bits:Nat):Int)).toNat=b by show ((b:Int)%18446744073709551616).toNat=b;omega,IntKind.wrap_i64]
 omega
theorem CL (c:ta) (k:Nat) (hk:k<10) (hm:c.bP.al.length≤8):bC Tryz.prog 29 [.agg (kY c),ai k] (ai (v8 c k)):=by
 have ml:(ae aG c.bP.al).length=c.bP.al.length*4:=aE (e:=4) (fun _=>rfl) ..
 refine zO Tryz.func29 59<|zQ 2 [{},{}] []<|zS<|zq<|zB 0 (zL (fun (i:Nat)=>(⟨[(4,ai 0),(2,AV.addr 2 0),(0,AV.agg [ai c.bP.aA,aw c.bP.head,ai c.bP.br,AV.sl 4 (ae aG c.bP.al),AV.sl 7 (ae a_ c.bP.aL),AV.sl 17 (ae aI c.log),ai (c.nx 0),ai (c.nx 1),ai (c.nx 2),ai (c.nx 3),ai (c.nx 4),ai (c.nx 5),ai (c.nx 6),ai (c.nx 7),ai (c.nx 8),ai (c.nx 9)]),(1,ai ↑k),(7,ai i),(5,ai (k_ c k i).1),(6,ai (k_ c k i).2)],[(2,⟨1,false,true,List.map (aB 2) (kY c)⟩)]⟩:AS)) (fun i=>(i≤10)) (fun i=>(10-i)) (0) ?_ (zW [.aa [4,2,0,1,7,5,6] [2]]) ?_)
 ·omega
 intro i hi
 have hb:=x7 c k i
 have rF:i*c.bP.al.length≤80:=Nat.mul_le_mul hi hm
 by_cases c1:i<10
 case neg =>
  have e:i=10:=ah
  subst e
  refine zS<|zP 1 [yH ([(8,{b:=false})]++yg [3,4,5,6,7])] [.aa [18,4,2,0,1,7,5,6] [2]] (yM 6 (yR false))<|zF 18<|zE 0<|aS<|aK<|bg<|ak<|zP 1 [{}] [.aa [4,18,2,0,1,7,5,6] [2]] []<|zR (bL)
 by_cases c2:((k_ c k i).2:Int)<c.bP.br
 case neg =>
  have hs:=wY c k c2 (10-i)
  rw [show i+(10-i)=10 by omega] at hs
  refine zS<|zP 1 [{}] [.aa [18,4,2,0,1,7,5,6] [2]] (yM 6 (yT ((↑i:Int)<10)))<|dq 18 ((↑(k_ c k i).snd:Int)<c.bP.br)<|zE 0<|aS<|aK<|bg<|ak<|zq<|zR (zV [yJ (↑(k_ c k i).fst:Int) (↑(v8 c k):Int) (by unfold v8;rw [hs])])
 obtain ⟨j,hj⟩:∃j,j=fL ((i:Int)+k) 10:=⟨_,rfl⟩
 have Da:j<10:=by have:=tj ((i:Int)+k) (n:=10) ah;omega
 have dC:k_ c k (i+1)=nB c j (k_ c k i) c.bP.al.length:=by show (if _ then _ else _)=_;rw [if_pos c2,←hj]
 have Mp:=Oi c Da
 have z7:=fP j Da
 have RZ:IntKind.u64.wrap ((j:Nat):Int)=(j:Int):=by rw [IntKind.wrap_u64];omega
 have VE:=fun m=>CM c Da hb.1 m
 generalize lP:k_ c k i=s at *
 refine zS<|zP 1 [{}] [.aa [18,4,2,0,1,7,5,6] [2]] (yM 6 (yT ((↑i:Int)<10)))<|gN 18 ((↑s.snd:Int)<c.bP.br)<|aW<|zS<|zB 1<|zP 2 [yH [(2,yV (ai ((↑i:Int)+(↑k:Int)))),(3,yV (ai (↑(fL ((↑i:Int)+(↑k:Int)) (10:Int)):Int))),(4,yV (ai ↑j))],{}] [.aa [9,8,18,4,2,0,1,7,5,6] [2]] [yN ((↑i:Int)+(↑k:Int)),yI (ti ((↑i:Int)+(↑k:Int)) ((10:Int)) ah ah),yB (ai (↑(fL ((↑i:Int)+(↑k:Int)) (10:Int)):Int)=ai ↑j) (by rw [hj])]<|zB 2 (zL (fun (m:Nat)=>(⟨[(8,ai ↑j),(18,ao (decide ((↑s.snd:Int)<c.bP.br))),(4,ai 0),(2,AV.addr 2 0),(0,AV.agg [ai c.bP.aA,aw c.bP.head,ai c.bP.br,AV.sl 4 (ae aG c.bP.al),AV.sl 7 (ae a_ c.bP.aL),AV.sl 17 (ae aI c.log),ai (c.nx 0),ai (c.nx 1),ai (c.nx 2),ai (c.nx 3),ai (c.nx 4),ai (c.nx 5),ai (c.nx 6),ai (c.nx 7),ai (c.nx 8),ai (c.nx 9)]),(1,ai ↑k),(7,ai ↑i),(9,ai m),(5,ai (nB c j s m).1),(6,ai (nB c j s m).2)],[(2,⟨1,false,true,kY c⟩)]⟩:AS)) (fun m=>(m≤c.bP.al.length)) (fun m=>(c.bP.al.length-m)) (0) ?_ (zW [.aa [8,18,4,2,0,1,7,9,5,6] [2]]) ?_)
 ·omega
 intro m IY
 have VD:=VE m
 refine zS<|zP 1 [yH [(4,{k:=c.bP.al.length})]] [.aa [30,8,18,4,2,0,1,7,9,5,6] [2]] [yI ml] (zD 30 ((↑m:Int)<(↑c.bP.al.length:Int)) (fun q=>?_) (fun q=>?_))
 ·have Sk:m<c.bP.al.length:=ah
  have gh:=mE Sk
  by_cases cn:(c.bP.al.getD m default).name=(dJ j).name
  case neg =>
   have h1:nB c j s (m+1)=nB c j s m:=if_neg (fun q=>cn q.1)
   refine aW<|zS<|zB 3<|zP 1 [{hs:=[(4,{k:=m}),(6,yV (cQ (c.bP.al.getD m default).name)),(8,yV (AV.agg (aG (dJ j)))),(10,yV (ao ((c.bP.al.getD m default).name == (dJ j).name))),(12,{g:=false}),(13,{g:=false}),(14,{g:=false}),(15,{g:=false}),(16,{g:=false}),(17,{b:=false})],T:=14}] [.aa [50,30,8,18,4,2,0,1,7,9,5,6] [2]] ([yR (↑m:Int),yO (m*4<(ae aG c.bP.al).length),yA aG c.bP.al m 0,yI z7,yI (eU ((c.bP.al.getD m default).name) ((dJ j).name))]++yM 6 (yS (((c.bP.al.getD m default).name == (dJ j).name)=false)))<|zF 50<|zK<|aM<|ak<|zX (yH [(1,yV (ai ((↑m:Int)+1)))]) [yN ((↑m:Int)+1)] (aH (m+1) (by assumption) ah (eu [.aa [8,18,4,2,0,1,7,9,5,6] [2]] [5,6] [] [yB (ai (↑(nB c j s m).fst:Int)=ai (↑(nB c j s (m+1)).fst:Int)) (by rw [h1]),yB (ai (↑(nB c j s m).snd:Int)=ai (↑(nB c j s (m+1)).snd:Int)) (by rw [h1])]))
  by_cases cx:c.nx j<16
  case neg =>
   have h1:nB c j s (m+1)=nB c j s m:=if_neg (fun q=>cx q.2)
   refine aW<|zS<|zB 3<|zP 1 [{hs:=[(4,{k:=m}),(6,yV (cQ (c.bP.al.getD m default).name)),(8,yV (AV.agg (aG (dJ j)))),(10,yV (ao ((c.bP.al.getD m default).name == (dJ j).name))),(14,{k:=j}),(15,yV (ai (c.nx j)))],T:=14}] [.aa [50,30,8,18,4,2,0,1,7,9,5,6] [2]] ([yR (↑m:Int),yO (m*4<(ae aG c.bP.al).length),yA aG c.bP.al m 0,yI z7,yI (eU ((c.bP.al.getD m default).name) ((dJ j).name))]++yM 3 (yS (((c.bP.al.getD m default).name == (dJ j).name)=true))++ [yR (↑j:Int),yI Da,yS (((c.bP.al.getD m default).name == (dJ j).name)=true),yI Mp]++yM 2 (yS (((c.bP.al.getD m default).name == (dJ j).name)=true)))<|dq 50 (c.nx j<16)<|zK<|aM<|ak<|zX (yH [(1,yV (ai ((↑m:Int)+1)))]) [yN ((↑m:Int)+1)] (aH (m+1) (by assumption) ah (eu [.aa [8,18,4,2,0,1,7,9,5,6] [2]] [5,6] [] [yB (ai (↑(nB c j s m).fst:Int)=ai (↑(nB c j s (m+1)).fst:Int)) (by rw [h1]),yB (ai (↑(nB c j s m).snd:Int)=ai (↑(nB c j s (m+1)).snd:Int)) (by rw [h1])]))
  have h1:nB c j s (m+1)=((nB c j s m).1|||2^j,(nB c j s m).2+1):=if_pos ⟨cn,cx⟩
  have C8:=M1 Da
  have tn:=Na (a:=(nB c j s m).1) (b:=2^j) ah (by have:=Nat.pow_lt_pow_right (a:=2) (by decide) Da;omega)
  refine aW<|zS<|zB 3<|zP 1 [{hs:=[(4,{k:=m}),(6,yV (cQ (c.bP.al.getD m default).name)),(8,yV (AV.agg (aG (dJ j)))),(10,yV (ao ((c.bP.al.getD m default).name == (dJ j).name))),(14,{k:=j}),(15,yV (ai (c.nx j)))],T:=14}] [.aa [50,30,8,18,4,2,0,1,7,9,5,6] [2]] ([yR (↑m:Int),yO (m*4<(ae aG c.bP.al).length),yA aG c.bP.al m 0,yI z7,yI (eU ((c.bP.al.getD m default).name) ((dJ j).name))]++yM 3 (yS (((c.bP.al.getD m default).name == (dJ j).name)=true))++ [yR (↑j:Int),yI Da,yS (((c.bP.al.getD m default).name == (dJ j).name)=true),yI Mp]++yM 2 (yS (((c.bP.al.getD m default).name == (dJ j).name)=true)))<|gN 50 (c.nx j<16)<|zP 1 [yH [(2,yV (AV.val (Value.int .u64 (↑j:Int)))),(3,yV (ai (↑((2:Nat)^j):Int))),(4,yV (ai (↑((nB c j s m).fst|||(2:Nat)^j):Int)))]] [.aa [5,50,30,8,18,4,2,0,1,7,9,6] [2]] [yI (yd RZ),yI (yc C8),yO ((0:Int)≤(↑j:Int)),yI (yc tn)]<|zX (yH [(1,yV (ai ((↑(nB c j s m).snd:Int)+1)))]) [yN ((↑(nB c j s m).snd:Int)+1)]<|aM<|ak<|zX (yH [(1,yV (ai ((↑m:Int)+1)))]) [yN ((↑m:Int)+1)] (aH (m+1) (by assumption) ah (eu [.aa [8,18,4,2,0,1,7,9,5,6] [2]] [5,6] [] [yB (ai (↑((nB c j s m).fst|||(2:Nat)^j):Int)=ai (↑(nB c j s (m+1)).fst:Int)) (by rw [h1]),yB (ai ((↑(nB c j s m).snd:Int)+1)=ai (↑(nB c j s (m+1)).snd:Int)) (by rw [h1];rfl)]))
 ·have em:m=c.bP.al.length:=ah
  subst em
  refine zE 2<|aS<|aK<|bg<|aM<|ak<|zX (yH [(1,yV (ai ((↑i:Int)+1)))]) [yN ((↑i:Int)+1)] (aH (i+1) (by assumption) ah (eu [.aa [4,2,0,1,7,5,6] [2]] [5,6] [] [yB (ai (↑(nB c j s c.bP.al.length).fst:Int)=ai (↑(k_ c k (i+1)).fst:Int)) (by rw [dC]),yB (ai (↑(nB c j s c.bP.al.length).snd:Int)=ai (↑(k_ c k (i+1)).snd:Int)) (by rw [dC])]))
def Ht (f:Nat->Int) (i:Nat) (v:Int):Nat->Int:=fun j=>if j=i then v else f j
def bI (e:dP) (nx:Nat->Int) (dR:Nat):Nat->dP×(Nat->Int)
 | 0=>(e,nx)
 | i+1=>if dR.testBit i=true∧lS (bI e nx dR i).1 (dJ i).name 4 ((bI e nx dR i).2 i)=0 then (tO (bI e nx dR i).1 (dJ i).name (300+u64 i) 4 ((bI e nx dR i).2 i),Ht (bI e nx dR i).2 i ((bI e nx dR i).2 i+1)) else bI e nx dR i
theorem Nb (f:Nat->Int) {i:Nat} (h:i<10) (v:Int):(x_ f).set i (ai v)=x_ (Ht f i v):=by
 rcases i with _|_|_|_|_|_|_|_|_|_|i<;>first|rfl|omega
theorem IA (l:List gb) (v:gb):(Bh l v).length=l.length+1:=by
 have:=EF l v.name
 unfold Bh
 simp only [List.length_append,List.length_take,List.length_drop,List.length_cons,List.length_nil]
 omega
theorem MT {e:dP} (hB:mY e) {n:List UInt8} {seed:UInt64} {h leaf:Int} (hq:lS e n h leaf=0):mY (tO e n seed h leaf)∧(tO e n seed h leaf).aq.length=e.aq.length+1:=by
 have cf:tO e n seed h leaf= {e with aq:=Bh e.aq ⟨n,pa h leaf,oG seed h leaf (di e),oF seed h leaf⟩}:=if_neg (fun q=>q hq)
 rw [cf]
 exact ⟨⟨hB.QZ,hB.dep⟩,IA _ _⟩
theorem xL {e:dP} (hB:mY e) (nx:Nat->Int) (dR:Nat):∀i,mY (bI e nx dR i).1∧(bI e nx dR i).1.aq.length≤e.aq.length+i
 | 0=>⟨hB,Nat.le_refl _⟩
 | i+1=>by
  obtain ⟨h1,h2⟩:=xL hB nx dR i
  unfold bI
  split
  ·rename_i q
   obtain ⟨h3,h4⟩:=MT (seed:=300+u64 i) h1 q.2
   exact ⟨h3,by show (tO _ _ _ _ _).aq.length≤_;omega⟩
  ·exact ⟨h1,ah⟩
theorem Hn {e:dP} {n:List UInt8} {leaf:Int} (h:lS e n 4 leaf=0):0≤leaf∧leaf<16:=by
 have hs:wS 4 leaf=0:=by
  unfold lS at h
  split at h
  ·rename_i q;exact absurd h q
  split at h
  ·omega
  ·exact h
 have nb:¬i7 4 leaf:=by
  intro q;unfold wS at hs;rw [if_pos q] at hs;omega
 unfold i7 at nb
 have:(2:Nat)^(4:Int).toNat=16:=rfl
 omega
theorem MX {w i:Nat} (hw:w<1024) (hi:i<10):IntKind.i64.wrap ((BitVec.ofInt IntKind.i64.bits ((w/2^i:Nat):Int)&&&BitVec.ofInt IntKind.i64.bits 1).toNat:Nat)=if w.testBit i=true then 1 else 0:=by
 rw [BitVec.toNat_and,BitVec.toNat_ofInt,BitVec.toNat_ofInt,show ((1:Int)%((2^IntKind.i64.bits:Nat):Int)).toNat=1 by rfl]
 have hq:w/2^i<1024:=Nat.lt_of_le_of_lt (Nat.div_le_self _ _) hw
 rw [Nat.testBit_eq_decide_div_mod_eq]
 generalize w/2^i=q at *
 rw [show (((q:Nat):Int)%((2^IntKind.i64.bits:Nat):Int)).toNat=q by show (((q:Nat):Int)%18446744073709551616).toNat=_;omega]
 rw [Nat.and_one_is_mod]
 have:q%2<2:=Nat.mod_lt _ (by decide)
 by_cases c:q%2=1
 ·rw [c];decide
 ·rw [show q%2=0 by omega];decide
theorem KK (w:Nat) {i:Nat} (hi:i<10):((w:Nat):Int).fdiv (2^min ((i:Nat):Int).toNat IntKind.i64.bits)=((w/2^i:Nat):Int):=by
 rw [show min ((i:Nat):Int).toNat IntKind.i64.bits=i from Nat.min_eq_left (by show i≤64;omega),Int.fdiv_eq_ediv_of_nonneg _ (Int.pow_nonneg (by decide))]
 push_cast
 rfl
theorem Cw (nn:∀e,mY e->bC Tryz.prog 40 [.agg (aI e)] (.bk [.own 1 (ag (bN e)),ai (dH e)])) (c:ta) (e:dP) (dR:Nat) (hw:dR<1024) (hB:mY e) (hv:e.aq.length≤900000):bC Tryz.prog 22 [.agg (kY c),.agg (aI e),ai dR] (.bk [.agg (aI (bI e c.nx dR 10).1),.arr (x_ (bI e c.nx dR 10).2)]):=by
 refine zO Tryz.func22 48<|zP 2 [yH [(3,yV (AV.arr (au (List.replicate 10 (0:Int)))))],yH [(1,yV (AV.agg [ai (c.nx 0),ai (c.nx 1),ai (c.nx 2),ai (c.nx 3),ai (c.nx 4),ai (c.nx 5),ai (c.nx 6),ai (c.nx 7),ai (c.nx 8),ai (c.nx 9)])),(2,yV (AV.arr (au (List.replicate 10 (0:Int)))))]] [.aa [8,7,6,4,3,0,1,2] [8,7,6,4,3]] [yR (au (List.replicate 10 (0:Int))),yR (List.take 10 (List.drop 6 (List.map (aB 7) (List.map (aB 6) (List.map (aB 4) (List.map (aB 3) (kY c))))))),yR 10,yR (au (List.replicate 10 (0:Int))),yL 10 10]<|zS<|zq<|zB 0 (zL (fun (i:Nat)=>(⟨[(8,AV.addr 8 0),(7,AV.addr 7 0),(6,AV.addr 6 0),(4,AV.addr 4 0),(3,AV.addr 3 0),(0,AV.agg [ai c.bP.aA,aw c.bP.head,ai c.bP.br,AV.sl 4 (ae aG c.bP.al),AV.sl 7 (ae a_ c.bP.aL),AV.sl 17 (ae aI c.log),ai (c.nx 0),ai (c.nx 1),ai (c.nx 2),ai (c.nx 3),ai (c.nx 4),ai (c.nx 5),ai (c.nx 6),ai (c.nx 7),ai (c.nx 8),ai (c.nx 9)]),(1,AV.agg (aI e)),(2,ai ↑dR),(9,ai i)],[(7,⟨1,true,true,au (List.replicate 10 (0:Int))⟩),(6,⟨1,false,true,[ai 0,cN,ai 0,AV.val (Value.string (ByteArray.mk #[])),ai 0,cN,ai 0,cN,cN,AV.nil,AV.nil,AV.nil,ai 0,cN,cN,cN,AV.nil]⟩),(3,⟨1,false,true,List.map (aB 8) (List.map (aB 7) (List.map (aB 6) (List.map (aB 4) (List.map (aB 3) (kY c)))))⟩),(4,⟨1,false,true,aI (bI e c.nx dR i).1⟩),(8,⟨1,true,true,x_ (bI e c.nx dR i).2⟩)]⟩:AS)) (fun i=>(i≤10)) (fun i=>(10-i)) (0) ?_ (zW [.aa [8,7,6,4,3,0,1,2,9] [7,6,3,4,8]]) ?_)
 ·omega
 intro i hi
 obtain ⟨b1,b2⟩:=xL hB c.nx dR i
 refine zS<|bf.jJ 1 [{}] bt (s':=AS.mk [(15,ao (decide ((↑i:Int)<10))),(14,ai ↑i),(8,AV.addr 8 0),(7,AV.addr 7 0),(6,AV.addr 6 0),(4,AV.addr 4 0),(3,AV.addr 3 0),(0,AV.agg [ai c.bP.aA,aw c.bP.head,ai c.bP.br,AV.sl 4 (ae aG c.bP.al),AV.sl 7 (ae a_ c.bP.aL),AV.sl 17 (ae aI c.log),ai (c.nx 0),ai (c.nx 1),ai (c.nx 2),ai (c.nx 3),ai (c.nx 4),ai (c.nx 5),ai (c.nx 6),ai (c.nx 7),ai (c.nx 8),ai (c.nx 9)]),(1,AV.agg (aI e)),(2,ai ↑dR),(9,ai ↑i)] [(7,Row.mk 1 true true (au (List.replicate 10 (0:Int)))),(6,Row.mk 1 false true [ai 0,cN,ai 0,AV.val (Value.string (ByteArray.mk #[])),ai 0,cN,ai 0,cN,cN,AV.nil,AV.nil,AV.nil,ai 0,cN,cN,cN,AV.nil]),(3,Row.mk 1 false true (List.map (aB 8) (List.map (aB 7) (List.map (aB 6) (List.map (aB 4) (List.map (aB 3) (kY c))))))),(4,Row.mk 1 false true (aI (bI e c.nx dR i).fst)),(8,Row.mk 1 true true (x_ (bI e c.nx dR i).snd))]) (C:=[]) bt trivial (zD 15 ((↑i:Int)<10) (fun q=>?_) (fun q=>?_))
 ·have cX:i<10:=ah
  have Qp:=nn _ b1
  have z7:=fP i cX
  have Ch:=AM (bI e c.nx dR i).1 (dJ i).name (300+u64 i) 4 ((bI e c.nx dR i).2 i) ah Qp
  have Mp:=Pv (bI e c.nx dR i).2 cX
  have UW:=Nb (bI e c.nx dR i).2 cX ((bI e c.nx dR i).2 i+1)
  have Nj:IntKind.u64.wrap ((i:Nat):Int)=(i:Int):=by rw [IntKind.wrap_u64];omega
  have Ge:=KK dR cX
  have PK:=MX hw cX
  have dC:bI e c.nx dR (i+1)=if dR.testBit i=true∧lS (bI e c.nx dR i).1 (dJ i).name 4 ((bI e c.nx dR i).2 i)=0 then (tO (bI e c.nx dR i).1 (dJ i).name (300+u64 i) 4 ((bI e c.nx dR i).2 i),Ht (bI e c.nx dR i).2 i ((bI e c.nx dR i).2 i+1)) else bI e c.nx dR i:=rfl
  generalize bI e c.nx dR i=S at *
  clear nn Qp
  by_cases tb:dR.testBit i=true
  case neg =>
   rw [if_neg tb] at PK
   rw [if_neg (fun q=>tb q.1)] at dC
   refine aW<|zS<|zB 1<|zS<|zP 1 [yH [(2,yV (AV.val (Value.int .u64 (↑i:Int)))),(3,yV (ai (↑(dR/(2:Nat)^i):Int))),(4,yV (ai 0))]] [.aa [23,15,8,7,6,4,3,0,1,2,9] [7,6,3,4,8]] [yI (yd Nj),yI (yc Ge),yO ((0:Int)≤(↑i:Int)),yI (yc PK)]<|dm 23 ((0:Int) == (0:Int)) eg<|zE 1<|aS<|bg<|ak<|zX (yH [(1,yV (ai ((↑i:Int)+1)))]) [yN ((↑i:Int)+1)] (aH (i+1) (by assumption) ah (eu [.aa [8,7,6,4,3,0,1,2,9] [7,6,3,4,8]] [] [4,8] [yB (aI S.fst=aI (bI e c.nx dR (i+1)).fst) (by rw [dC]),yB (x_ S.snd=x_ (bI e c.nx dR (i+1)).snd) (by rw [dC])]))
  rw [if_pos tb] at PK
  by_cases cq:lS S.1 (dJ i).name 4 (S.2 i)=0
  case neg =>
   rw [if_neg (fun q=>cq q.2)] at dC
   have R0:Cm S.1 (dJ i).name (300+u64 i) 4 (S.2 i)=Aa:=if_neg cq
   rw [R0] at Ch
   refine aW<|zS<|zB 1<|zS<|zP 1 [yH [(2,yV (AV.val (Value.int .u64 (↑i:Int)))),(3,yV (ai (↑(dR/(2:Nat)^i):Int))),(4,yV (ai 1)),(5,yV (ao false))]] [.aa [23,15,8,7,6,4,3,0,1,2,9] [7,6,3,4,8]] [yI (yd Nj),yI (yc Ge),yB ((0:Int)≤(↑i:Int)) (by simp [cq]),yI (yc PK),yR (ao false)]<|zF 23<|aW<|zS<|wz 16 [14,15] [(2,yV (AV.agg (aG (dJ i)))),(5,yV (aw (u64 (↑i:Int)))),(6,yV (aw (300+u64 (↑i:Int)))),(8,{k:=i}),(9,yV (ai (S.snd i))),(10,yV (AV.bk [AV.agg [ai 0,aw 0,ai 0,AV.val (Value.string (ByteArray.mk #[])),ai 0,aw 0,ai 0,aw 0,aw 0,AV.nil,AV.nil,AV.nil,ai 0,aw 0,aw 0,aw 0,AV.nil],ai (lS S.fst (dJ i).name (4:Int) (S.snd i))]))] ([yI z7,yI (ba ((↑i:Int))),yR (aw (300+u64 (↑i:Int))),yR (↑i:Int),yI cX,yI Mp,yI Ch,yR (AV.agg (aI S.fst)),yR (ai ↑i),yR (AV.agg (aG (dJ i))),yI z7,yR (cQ (dJ i).name),yR (ai ↑i),yR (aw (u64 (↑i:Int))),yI (ba ((↑i:Int)))]++yM 2 (yR (aw (300+u64 (↑i:Int))))++ [yR (ai ↑i),yR (AV.addr 8 i),yR (↑i:Int),yI cX,yR (ai (S.snd i)),yI Mp,yR (AV.bk [AV.agg [ai 0,aw 0,ai 0,AV.val (Value.string (ByteArray.mk #[])),ai 0,aw 0,ai 0,aw 0,aw 0,AV.nil,AV.nil,AV.nil,ai 0,aw 0,aw 0,aw 0,AV.nil],ai (lS S.fst (dJ i).name (4:Int) (S.snd i))]),yI Ch,yR (AV.bk [AV.agg [ai 0,aw 0,ai 0,AV.val (Value.string (ByteArray.mk #[])),ai 0,aw 0,ai 0,aw 0,aw 0,AV.nil,AV.nil,AV.nil,ai 0,aw 0,aw 0,aw 0,AV.nil],ai (lS S.fst (dJ i).name (4:Int) (S.snd i))]),yR (AV.agg [ai 0,aw 0,ai 0,AV.val (Value.string (ByteArray.mk #[])),ai 0,aw 0,ai 0,aw 0,aw 0,AV.nil,AV.nil,AV.nil,ai 0,aw 0,aw 0,aw 0,AV.nil]),yR (ai (lS S.fst (dJ i).name (4:Int) (S.snd i))),yL 17 17,yR (ai (lS S.fst (dJ i).name (4:Int) (S.snd i)))])<|ak<|bf.r9 [.aa [11,32,10,23,15,8,7,6,4,3,0,1,2,9] [10,7,6,3,4,8]] bt<|zP 1 [yH [(1,yV (ao false))]] [.aa [39,11,32,10,23,15,8,7,6,4,3,0,1,2,9] [10,7,6,3,4,8]] [yB (ao (lS S.fst (dJ i).name (4:Int) (S.snd i) == (0:Int))=ao false) (by simp [cq])]<|zF 39<|zK<|aM<|ak<|zX (yH [(1,yV (ai ((↑i:Int)+1)))]) [yN ((↑i:Int)+1)] (aH (i+1) (by assumption) ah (eu [.aa [8,7,6,4,3,0,1,2,9] [7,6,3,4,8]] [] [4,8] [yB (List.map (aB 10) (List.map (aB 10) (aI S.fst))=aI (bI e c.nx dR (i+1)).fst) (by rw [dC];rfl),yB (x_ S.snd=x_ (bI e c.nx dR (i+1)).snd) (by rw [dC])]))
  rw [if_pos ⟨tb,cq⟩] at dC
  have hl:=Hn cq
  have R0:Cm S.1 (dJ i).name (300+u64 i) 4 (S.2 i)=aI (tO S.1 (dJ i).name (300+u64 i) 4 (S.2 i)):=if_pos cq
  rw [R0,cq] at Ch
  have UQ:IntKind.i64.wrap (S.2 i+1)=S.2 i+1:=by rw [IntKind.wrap_i64];omega
  generalize tO S.1 (dJ i).name (300+u64 i) 4 (S.2 i)=F at *
  refine aW<|zS<|zB 1<|zS<|zP 1 [yH [(2,yV (AV.val (Value.int .u64 (↑i:Int)))),(3,yV (ai (↑(dR/(2:Nat)^i):Int))),(4,yV (ai 1))]] [.aa [23,15,8,7,6,4,3,0,1,2,9] [7,6,3,4,8]] [yI (yd Nj),yI (yc Ge),yO ((0:Int)≤(↑i:Int)),yI (yc PK)]<|bj 23 ((1:Int) == (0:Int)) bD<|aW<|zS<|wz 16 [14,15] [(2,yV (AV.agg (aG (dJ i)))),(5,yV (aw (u64 (↑i:Int)))),(6,yV (aw (300+u64 (↑i:Int)))),(8,{k:=i}),(9,yV (ai (S.snd i))),(10,{av:=some (AV.bk [AV.agg (aI F),ai 0]),b:=false})] ([yI z7,yI (ba ((↑i:Int))),yR (aw (300+u64 (↑i:Int))),yR (↑i:Int),yI cX,yI Mp,yI Ch,yR (AV.agg (aI S.fst)),yR (ai ↑i),yR (AV.agg (aG (dJ i))),yI z7,yR (cQ (dJ i).name),yR (ai ↑i),yR (aw (u64 (↑i:Int))),yI (ba ((↑i:Int)))]++yM 2 (yR (aw (300+u64 (↑i:Int))))++ [yR (ai ↑i),yR (AV.addr 8 i),yR (↑i:Int),yI cX,yR (ai (S.snd i)),yI Mp,yR (AV.bk [AV.agg (aI F),ai 0]),yI Ch,yR (AV.bk [AV.agg (aI F),ai 0]),yR (AV.agg (aI F)),yR (ai 0),yL 17 17,yR (ai 0)])<|ak<|bf.r9 [.aa [11,32,10,23,15,8,7,6,4,3,0,1,2,9] [10,7,6,3,4,8]] bt<|zq<|dm 39 ((0:Int) == (0:Int)) eg<|zP 1 [{}] [.aa [39,11,32,10,23,15,8,7,6,4,3,0,1,2,9] [4,10,7,6,3,8]] [yL 17 17]<|zX (yH [(1,{k:=i}),(2,yV (ai (S.snd i))),(3,yV (ai (S.snd i+1))),(4,{k:=i}),(5,yV (AV.arr (x_ (Ht S.snd i (S.snd i+1)))))]) [yR (↑i:Int),yI cX,yI Mp,yN (S.snd i+1),yR (↑i:Int),yI cX,yI UW,yB (i+1≤10) (by assumption)]<|aM<|ak<|zX (yH [(1,yV (ai ((↑i:Int)+1)))]) [yN ((↑i:Int)+1)] (aH (i+1) (by assumption) ah (eu [.aa [8,7,6,4,3,0,1,2,9] [7,6,3,4,8]] [] [4,8] [yB (List.map (aB 10) (List.take 0 (List.map (aB 10) (aI S.fst))++(aI F)++List.drop 17 (List.map (aB 10) (aI S.fst)))=aI (bI e c.nx dR (i+1)).fst) (by rw [dC];rfl),yB (x_ (Ht S.snd i (S.snd i+1))=x_ (bI e c.nx dR (i+1)).snd) (by rw [dC])]))
 ·have ei:i=10:=ah
  subst ei
  refine zE 0<|aS<|aK<|bg<|ak<|zS<|wz 3 [2] [(0,yV (AV.agg [ai ((bI e c.nx dR 10).fst.aA),aw ((bI e c.nx dR 10).fst.prev),ai ((bI e c.nx dR 10).fst.kind),cQ (bI e c.nx dR 10).fst.name,ai ((bI e c.nx dR 10).fst.kh),aw ((bI e c.nx dR 10).fst.kr),ai ((bI e c.nx dR 10).fst.br),aw ((bI e c.nx dR 10).fst.dep.bY),aw ((bI e c.nx dR 10).fst.dep.peer),AV.sl 1 (ag (bI e c.nx dR 10).fst.dep.box),AV.sl 1 (ae ax (bI e c.nx dR 10).fst.dep.af),AV.sl 1 (aj (bI e c.nx dR 10).fst.dep.ay),ai ((bI e c.nx dR 10).fst.dep.need),aw ((bI e c.nx dR 10).fst.dep.target),aw ((bI e c.nx dR 10).fst.bY),aw ((bI e c.nx dR 10).fst.target),AV.sl 4 (ae aU (bI e c.nx dR 10).fst.aq)])),(1,yV (AV.agg [ai ((bI e c.nx dR 10).snd 0),ai ((bI e c.nx dR 10).snd 1),ai ((bI e c.nx dR 10).snd 2),ai ((bI e c.nx dR 10).snd 3),ai ((bI e c.nx dR 10).snd 4),ai ((bI e c.nx dR 10).snd 5),ai ((bI e c.nx dR 10).snd 6),ai ((bI e c.nx dR 10).snd 7),ai ((bI e c.nx dR 10).snd 8),ai ((bI e c.nx dR 10).snd 9)]))] [yR (List.take 17 (List.drop 0 (aI (bI e c.nx dR 10).fst))),yR 17,yR (List.take 10 (List.drop 0 (x_ (bI e c.nx dR 10).snd))),yR 10,yL 17 17,yR (AV.agg [ai ((bI e c.nx dR 10).snd 0),ai ((bI e c.nx dR 10).snd 1),ai ((bI e c.nx dR 10).snd 2),ai ((bI e c.nx dR 10).snd 3),ai ((bI e c.nx dR 10).snd 4),ai ((bI e c.nx dR 10).snd 5),ai ((bI e c.nx dR 10).snd 6),ai ((bI e c.nx dR 10).snd 7),ai ((bI e c.nx dR 10).snd 8),ai ((bI e c.nx dR 10).snd 9)]),yR (List.take 10 (List.drop 0 (x_ (bI e c.nx dR 10).snd))),yR 10,yL 10 10]<|ak<|bf.r9 [.aa [15,8,7,6,4,3,0,1,2,9] [7,6,3,4,8]] bt<|zR (zV [yR 10,yR (Value.int .i64 (bI e c.nx dR 10).fst.aA),yR (Value.int .u64 (wv (bI e c.nx dR 10).fst.prev)),yR (Value.int .i64 (bI e c.nx dR 10).fst.kind),yR (Value.string (ByteArray.mk (bI e c.nx dR 10).fst.name.toArray)),yR (Value.int .i64 (bI e c.nx dR 10).fst.kh),yR (Value.int .u64 (wv (bI e c.nx dR 10).fst.kr)),yR (Value.int .i64 (bI e c.nx dR 10).fst.br),yR (Value.int .u64 (wv (bI e c.nx dR 10).fst.dep.bY)),yR (Value.int .u64 (wv (bI e c.nx dR 10).fst.dep.peer)),yR (ag (bI e c.nx dR 10).fst.dep.box),yR (ae ax (bI e c.nx dR 10).fst.dep.af),yR (aj (bI e c.nx dR 10).fst.dep.ay),yR (Value.int .i64 (bI e c.nx dR 10).fst.dep.need),yR (Value.int .u64 (wv (bI e c.nx dR 10).fst.dep.target)),yR (Value.int .u64 (wv (bI e c.nx dR 10).fst.bY)),yR (Value.int .u64 (wv (bI e c.nx dR 10).fst.target)),yR (ae aU (bI e c.nx dR 10).fst.aq),yR (x_ (bI e c.nx dR 10).snd)])
end Go.Proofs.YtjgbhhnghedgdaaGreatDoor
