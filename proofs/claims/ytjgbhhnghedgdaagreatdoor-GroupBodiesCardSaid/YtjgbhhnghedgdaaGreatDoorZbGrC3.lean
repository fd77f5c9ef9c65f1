import Derived.Test.YtjgbhhnghedgdaaGreatDoorZbGrC2
set_option linter.all false
namespace Go.Proofs.YtjgbhhnghedgdaaGreatDoor
open Go.RowKit
set_option maxRecDepth 100000
set_option maxHeartbeats 4000000
theorem Fi (l:List gl) (n:List UInt8) {i:Nat} (h:i<l.length):Ag (l.take (i+1)) n=if NZ (l.getD i default).name n=true∧Ag (l.take i) n=i then i+1 else Ag (l.take i) n:=by
 unfold Ag
 rw [List.take_add_one,List.getD_eq_getElem?_getD,List.getElem?_eq_getElem h,List.takeWhile_append,List.length_take,Nat.min_eq_left aj]
 by_cases c:(List.takeWhile (fun v:gl=>NZ v.name n) (l.take i)).length=i
 ·rw [if_pos c]
  by_cases c2:NZ l[i].name n=true
  ·rw [if_pos ⟨c2,c⟩]
   simp [c2];omega
  ·rw [if_neg (fun q=>c2 q.1)]
   simp [c2];omega
 ·rw [if_neg c,if_neg (fun q=>c q.2)]
theorem D0 (l:List gl) (n:List UInt8):Ag l n≤l.length:=(List.takeWhile_sublist _).length_le
theorem Ld {l:List gl} {n:List UInt8} (h:∀j,j<l.length->(l.getD j default).name≠n):Jb l n=false:=by
 unfold Jb
 rw [List.any_eq_false]
 intro v hv
 obtain ⟨j,hj,rfl⟩:=List.mem_iff_getElem.1 hv
 have:=h j hj
 rw [List.getD_eq_getElem?_getD,List.getElem?_eq_getElem hj] at this
 simpa using this
theorem Le {l:List gl} {n:List UInt8} {i:Nat} (hi:i<l.length) (e:(l.getD i default).name=n):Jb l n=true:=by
 unfold Jb
 rw [List.any_eq_true]
 rw [List.getD_eq_getElem?_getD,List.getElem?_eq_getElem hi] at e
 exact ⟨_,List.getElem_mem hi,by simpa using e⟩
def y7:List AV:=[ai 0,aw 0,ai 0,cF [],ai 0,aw 0,ai 0,aw 0,aw 0,.nil,.nil,.nil,ai 0,aw 0,aw 0,aw 0,.nil]
def BC (e:eP) (n:List UInt8) (seed:UInt64) (h leaf:Int):List AV:=if lN e n h leaf=0 then a7 (tB e n seed h leaf) else y7
theorem zY (e:eP) (n:List UInt8) (seed:UInt64) (h leaf:Int) (hv:e.ak.length≤1000000) (m_:bL Tryz.prog 40 [.agg (a7 e)] (.bt [.own 1 (ag (fo e)),ai (eu e)])):bL Tryz.prog 26 [.agg (a7 e),cF n,aw seed,ai h,ai leaf] (.bt [.agg (BC e n seed h leaf),ai (lN e n h leaf)]):=by
 have xN:(ae aP e.ak).length=e.ak.length*4:=aG (e:=4) (fun _=>rfl) ..
 by_cases cb:eu e=0
 case neg =>
  have ce:lN e n h leaf=eu e:=if_pos cb
  have cf:BC e n seed h leaf=y7:=if_neg (by rw [ce];exact cb)
  rw [cf,ce]
  refine zO Tryz.func26 89<|zP 2 [{},yH [(1,yV (AV.bt [AV.own 1 (ag (fo e)),ai (eu e)]))]] [.aa [13,12,11,10,5,0,1,2,3,4] [1020,10,5]] [yI m_,yI (aR (fo e))]<|zS<|zQ 1 [yH [(1,yV (ao true))]] [yB (ao (eu e != (0:Int))=ao true) (by simp [cb])]<|zT 24<|zP 1 [{}] [.aa [11,24,13,12,10,5,0,1,2,3,4] [10,1020,5]] [yL 17 17]<|dn (bR)
 have pD:=qd e cb
 rw [cb] at m_
 have KL:=oG (fo e) aj
 rw [show hash 16 (fo e)=df e from rfl] at KL
 refine zO Tryz.func26 89<|zP 2 [{},yH [(1,yV (AV.bt [AV.own 1 (ag (fo e)),ai 0]))]] [.aa [13,12,11,10,5,0,1,2,3,4] [1020,10,5]] [yI m_,yI (aR (fo e))]<|zS<|zq<|zF 24<|a_<|zq<|zS<|zq<|zB 0 (zL (fun (p:Nat×Nat)=>(⟨[(24,ao ((0:Int) != (0:Int))),(13,ai 0),(12,AV.ref 1020),(10,AV.addr 10 0),(5,AV.addr 5 0),(0,AV.agg (a7 e)),(1,cF n),(2,aw seed),(3,ai h),(4,ai leaf),(15,ai p.1),(14,ai p.2)],[(1020,⟨1,true,false,ag (fo e)⟩),(10,⟨1,false,true,[ai 0,cQ,ai 0,AV.val (Value.string (ByteArray.mk #[])),ai 0,cQ,ai 0,cQ,cQ,AV.nil,AV.nil,AV.nil,ai 0,cQ,cQ,cQ,AV.nil]⟩),(5,⟨1,false,true,List.map (aE 1020) (List.map (aE 10) (List.map (aE 5) (a7 e)))⟩)]⟩:AS)) (fun p=>(p.1≤e.ak.length∧p.2=Ag (e.ak.take p.1) n∧ ∀j,j<p.1->(e.ak.getD j default).name≠n)) (fun p=>(e.ak.length-p.1)) ((0,0)) ?_ (zW [.aa [24,13,12,10,5,0,1,2,3,4,15,14] [1020,10,5]]) ?_)
 ·exact ⟨aj,rfl,aj⟩
 rintro ⟨i,a⟩ ⟨hi,ha,gh⟩
 simp only at hi ha gh
 refine zS<|zP 1 [yH [(3,{k:=e.ak.length})]] [.aa [31,24,13,12,10,5,0,1,2,3,4,15,14] [1020,10,5]] [yI xN] (zD 31 ((↑i:Int)<(↑e.ak.length:Int)) (fun q=>?_) (fun q=>?_))
 ·have dM:i<e.ak.length:=aj
  have gN:=la dM
  have dS:=Fi e.ak n dM
  by_cases cn:(e.ak.getD i default).name=n
  ·have hd:=Le dM cn
   have ce:lN e n h leaf=10:=by unfold lN;rw [if_neg (fun q=>q cb),if_pos hd]
   have cf:BC e n seed h leaf=y7:=if_neg aj
   rw [cf,ce]
   refine a_<|zS<|zB 1<|zS<|zP 1 [yH [(3,{k:=i}),(5,yV (cF (e.ak.getD i default).name)),(7,yV (ao ((e.ak.getD i default).name == n)))]] [.aa [41,31,24,13,12,10,5,0,1,2,3,4,15,14] [1020,10,5]] [yR (↑i:Int),yO (i*4<(ae aP e.ak).length),yB ((ae aP e.ak)[i*4]?=some (cF (e.ak.getD i default).name)) (bc (f:=aP) (e:=4) (k:=i) (j:=0) (fun _=>rfl) aj rfl),yB (ao ((ByteArray.mk (e.ak.getD i default).name.toArray).toList == (ByteArray.mk n.toArray).toList)=ao ((e.ak.getD i default).name == n)) (fN ((e.ak.getD i default).name) (n))]<|dB 41 ((e.ak.getD i default).name == n) (by simp_all)<|zP 1 [{}] [.aa [11,41,31,24,13,12,10,5,0,1,2,3,4,15,14] [10,1020,5]] [yL 17 17]<|dn<|a6<|aI<|de<|a6<|aI (bR)
  by_cases cl:NZ (e.ak.getD i default).name n=true
  ·by_cases ca:a=i
   ·rw [if_pos ⟨cl,aj⟩] at dS
    have We:((a:Int) == (i:Int))=true:=beq_iff_eq.2 aj
    clear ha ca
    refine a_<|zS<|zB 1<|zS<|zP 1 [yH [(3,{k:=i}),(5,yV (cF (e.ak.getD i default).name)),(7,yV (ao ((e.ak.getD i default).name == n)))]] [.aa [41,31,24,13,12,10,5,0,1,2,3,4,15,14] [1020,10,5]] [yR (↑i:Int),yO (i*4<(ae aP e.ak).length),yB ((ae aP e.ak)[i*4]?=some (cF (e.ak.getD i default).name)) (bc (f:=aP) (e:=4) (k:=i) (j:=0) (fun _=>rfl) aj rfl),yB (ao ((ByteArray.mk (e.ak.getD i default).name.toArray).toList == (ByteArray.mk n.toArray).toList)=ao ((e.ak.getD i default).name == n)) (fN ((e.ak.getD i default).name) (n))]<|bn 41 ((e.ak.getD i default).name == n) (by simp_all)<|a_<|zP 1 [yH [(3,{k:=i}),(5,yV (cF (e.ak.getD i default).name))]] [.aa [55,41,31,24,13,12,10,5,0,1,2,3,4,15,14] [1020,10,5]] ([yR (↑i:Int),yO (i*4<(ae aP e.ak).length),yB ((ae aP e.ak)[i*4]?=some (cF (e.ak.getD i default).name)) (bc (f:=aP) (e:=4) (k:=i) (j:=0) (fun _=>rfl) aj rfl)]++yM 4 (yB (Op.bytesLess (ByteArray.mk (e.ak.getD i default).name.toArray).toList (ByteArray.mk n.toArray).toList=true) (by assumption)))<|dB 55 ((↑a:Int) == (↑i:Int)) (by assumption)<|zX (yH [(1,yV (ai ((↑i:Int)+1)))]) [yN ((↑i:Int)+1)]<|aL<|aq<|zX (yH [(1,yV (ai ((↑i:Int)+1)))]) [yN ((↑i:Int)+1)] (aK (i+1,i+1) ⟨aj,by show i+1=_;rw [dS],fun j hj=>by by_cases e2:j=i;(subst e2;exact cn);exact gh j aj⟩ aj (zW [.aa [24,13,12,10,5,0,1,2,3,4,15,14] [1020,10,5]]))
   ·rw [if_neg (fun q=>ca aj)] at dS
    refine a_<|zS<|zB 1<|zS<|zP 1 [yH [(3,{k:=i}),(5,yV (cF (e.ak.getD i default).name)),(7,yV (ao ((e.ak.getD i default).name == n)))]] [.aa [41,31,24,13,12,10,5,0,1,2,3,4,15,14] [1020,10,5]] [yR (↑i:Int),yO (i*4<(ae aP e.ak).length),yB ((ae aP e.ak)[i*4]?=some (cF (e.ak.getD i default).name)) (bc (f:=aP) (e:=4) (k:=i) (j:=0) (fun _=>rfl) aj rfl),yB (ao ((ByteArray.mk (e.ak.getD i default).name.toArray).toList == (ByteArray.mk n.toArray).toList)=ao ((e.ak.getD i default).name == n)) (fN ((e.ak.getD i default).name) (n))]<|bn 41 ((e.ak.getD i default).name == n) (by simp_all)<|a_<|zP 1 [yH [(3,{k:=i}),(5,yV (cF (e.ak.getD i default).name))]] [.aa [55,41,31,24,13,12,10,5,0,1,2,3,4,15,14] [1020,10,5]] ([yR (↑i:Int),yO (i*4<(ae aP e.ak).length),yB ((ae aP e.ak)[i*4]?=some (cF (e.ak.getD i default).name)) (bc (f:=aP) (e:=4) (k:=i) (j:=0) (fun _=>rfl) aj rfl)]++yM 4 (yB (Op.bytesLess (ByteArray.mk (e.ak.getD i default).name.toArray).toList (ByteArray.mk n.toArray).toList=true) (by assumption)))<|bn 55 ((↑a:Int) == (↑i:Int)) bE<|zK<|aL<|aq<|zX (yH [(1,yV (ai ((↑i:Int)+1)))]) [yN ((↑i:Int)+1)] (aK (i+1,a) ⟨aj,by show a=_;rw [dS,ha],fun j hj=>by by_cases e2:j=i;(subst e2;exact cn);exact gh j aj⟩ aj (zW [.aa [24,13,12,10,5,0,1,2,3,4,15,14] [1020,10,5]]))
  ·rw [if_neg (fun q=>cl q.1)] at dS
   have Wc:NZ (e.ak.getD i default).name n=false:=by simpa using cl
   refine a_<|zS<|zB 1<|zS<|zP 1 [yH [(3,{k:=i}),(5,yV (cF (e.ak.getD i default).name)),(7,yV (ao ((e.ak.getD i default).name == n)))]] [.aa [41,31,24,13,12,10,5,0,1,2,3,4,15,14] [1020,10,5]] [yR (↑i:Int),yO (i*4<(ae aP e.ak).length),yB ((ae aP e.ak)[i*4]?=some (cF (e.ak.getD i default).name)) (bc (f:=aP) (e:=4) (k:=i) (j:=0) (fun _=>rfl) aj rfl),yB (ao ((ByteArray.mk (e.ak.getD i default).name.toArray).toList == (ByteArray.mk n.toArray).toList)=ao ((e.ak.getD i default).name == n)) (fN ((e.ak.getD i default).name) (n))]<|bn 41 ((e.ak.getD i default).name == n) (by simp_all)<|a_<|zP 1 [yH ([(3,{k:=i}),(5,yV (cF (e.ak.getD i default).name)),(12,{b:=false})]++yg [9,10,11])] [.aa [55,41,31,24,13,12,10,5,0,1,2,3,4,15,14] [1020,10,5]] ([yR (↑i:Int),yO (i*4<(ae aP e.ak).length),yB ((ae aP e.ak)[i*4]?=some (cF (e.ak.getD i default).name)) (bc (f:=aP) (e:=4) (k:=i) (j:=0) (fun _=>rfl) aj rfl)]++yM 4 (yB (Op.bytesLess (ByteArray.mk (e.ak.getD i default).name.toArray).toList (ByteArray.mk n.toArray).toList=false) (by assumption)))<|zF 55<|zK<|aL<|aq<|zX (yH [(1,yV (ai ((↑i:Int)+1)))]) [yN ((↑i:Int)+1)] (aK (i+1,a) ⟨aj,by show a=_;rw [dS,ha],fun j hj=>by by_cases e2:j=i;(subst e2;exact cn);exact gh j aj⟩ aj (zW [.aa [24,13,12,10,5,0,1,2,3,4,15,14] [1020,10,5]]))
 ·have ei:i=e.ak.length:=aj
  subst ei
  rw [List.take_length] at ha
  have hd:=Ld gh
  have hq:lN e n h leaf=wi h leaf:=by unfold lN;rw [if_neg (fun q=>q cb),if_neg (by rw [hd];decide)]
  by_cases cs:wi h leaf=0
  case neg =>
   have cf:BC e n seed h leaf=y7:=if_neg (by rw [hq];exact cs)
   rw [cf,hq]
   refine zE 0<|ba<|aS<|br<|aq<|zP 1 [yH [(4,yV (aw (df e))),(5,yV (AV.bt [AV.agg [ai (oU h leaf),AV.own 1 (ah (ox seed h leaf (df e))),AV.own 1 (ah (ow seed h leaf))],ai (wi h leaf)]))]] [.aa [13,16,31,24,12,10,5,0,1,2,3,4,15,14] [16,301064,201064,1020,10,5]] [yI KL,yI (rT seed h leaf (df e)),yB (ll (ah (ox seed h leaf (df e)))) (gn _),yB (ll (ah (ow seed h leaf))) (gn _),yL 3 3]<|zS<|zQ 1 [yH [(1,yV (ao true))]] [yB (ao (wi h leaf != (0:Int))=ao true) (by simp [cs])]<|zT 68<|zP 1 [{}] [.aa [11,68,13,16,31,24,12,10,5,0,1,2,3,4,15,14] [10,16,301064,201064,1020,5]] [yL 17 17]<|dn (bR)
  have cr:BC e n seed h leaf=a7 (tB e n seed h leaf):=if_pos (by rw [hq];exact cs)
  have cf:tB e n seed h leaf= {e with ak:=Au e.ak ⟨n,oU h leaf,ox seed h leaf (df e),ow seed h leaf⟩}:=if_neg (by rw [hq];exact fun q=>q cs)
  rw [cr,hq,cf,cs]
  have R8:=D0 e.ak n
  have oO:cI (ae aP e.ak):=dG (fun x=>dN rfl) _
  have s1:ae aP (e.ak.take a)++aP ⟨n,oU h leaf,ox seed h leaf (df e),ow seed h leaf⟩=ae aP (e.ak.take a++ [⟨n,oU h leaf,ox seed h leaf (df e),ow seed h leaf⟩]):=fZ _ _
  have s2:ae aP (e.ak.take a++ [⟨n,oU h leaf,ox seed h leaf (df e),ow seed h leaf⟩])++(ae aP e.ak).drop (a*4)=ae aP (Au e.ak ⟨n,oU h leaf,ox seed h leaf (df e),ow seed h leaf⟩):=by rw [om (e:=4) (fun _=>rfl),fE];unfold Au;rw [ha]
  have s0:(ae aP e.ak).take (a*4)=ae aP (e.ak.take a):=oi (e:=4) (fun _=>rfl) _ _
  have Pu:cI ((ae aP e.ak).take (a*4)):=fun x hx=>oO x (List.mem_of_mem_take hx)
  have Oc:cI ((ae aP e.ak).drop (a*4)):=fun x hx=>oO x (List.mem_of_mem_drop hx)
  refine zE 0<|ba<|aS<|br<|aq<|zP 1 [yH [(4,yV (aw (df e))),(5,yV (AV.bt [AV.agg [ai (oU h leaf),AV.own 1 (ah (ox seed h leaf (df e))),AV.own 1 (ah (ow seed h leaf))],ai (wi h leaf)]))]] [.aa [13,16,31,24,12,10,5,0,1,2,3,4,15,14] [16,301064,201064,1020,10,5]] [yI KL,yI (rT seed h leaf (df e)),yB (ll (ah (ox seed h leaf (df e)))) (gn _),yB (ll (ah (ow seed h leaf))) (gn _),yL 3 3]<|zS<|zQ 1 [yH [(1,yV (ao false))]] [yB (ao (wi h leaf != (0:Int))=ao false) (by simp [cs])]<|zF 68<|a_<|bf.sU [.gP 201064,.gP 301064] bk<|zS<|y8 9 [4] [(3,{m:=a}),(4,{av:=some (AV.arr (ae aP (List.take a e.ak))),b:=false}),(9,yV (AV.arr (ae aP (List.take a e.ak++ [gl.mk n (oU h leaf) (ox seed h leaf (df e)) (ow seed h leaf)]))))] [yR (↑a:Int),yO (a*4≤(ae aP e.ak).length),yI s0,yI Pu,yB ((0+(List.take (a*4) (ae aP e.ak)).length)*72≤562949953421312) (by simp only [List.length_take];omega),yR (cF n),yR (AV.agg [ai (oU h leaf),AV.sl 1 (ah (ox seed h leaf (df e))),AV.sl 1 (ah (ow seed h leaf))]),yR (AV.agg [cF n,ai (oU h leaf),AV.sl 1 (ah (ox seed h leaf (df e))),AV.sl 1 (ah (ow seed h leaf))]),yR (AV.sl 4 [cF n,ai (oU h leaf),AV.sl 1 (ah (ox seed h leaf (df e))),AV.sl 1 (ah (ow seed h leaf))]),yI s1,yB (((ae aP (List.take a e.ak)).length+4)*72≤562949953421312) (by simp only [List.length_take,aG (f:=aP) (e:=4) (fun _=>rfl)];omega)]<|aq<|zP 2 [yH [(4,{k:=a}),(5,{av:=some (AV.arr (ae aP (Au e.ak (gl.mk n (oU h leaf) (ox seed h leaf (df e)) (ow seed h leaf))))),b:=false})],{}] [.aa [11,68,13,16,31,24,12,10,5,0,1,2,3,4,15,14] [10,5,86,16,1020]] [yR (↑a:Int),yO (a*4≤(ae aP e.ak).length),yI s2,yI Oc,yB (((ae aP (List.take a e.ak++ [gl.mk n (oU h leaf) (ox seed h leaf (df e)) (ow seed h leaf)])).length+(List.drop (a*4) (ae aP e.ak)).length)*72≤562949953421312) (by simp only [List.length_append,List.length_cons,List.length_nil,List.length_take,List.length_drop,aG (f:=aP) (e:=4) (fun _=>rfl)];omega),yL 17 17,yL 17 17]<|bf.sU [.gP 86] bk<|zR (bR)
def gW (l:List Int) (k:Nat) (n:Int):Nat:=if k<l.length then fV (l.getD k 0) n else 0
def dU (l:List Int) (k:Nat):Nat:=if k<l.length then k+1 else k
theorem Ku (l:List Int):bL Tryz.prog 13 [.sl 1 (ax l)] (.box [.sl 1 (ax l),ai 0]):=by
 refine zO Tryz.func13 6<|zP 2 [{},{}] [.aa [2,0] [5]] []<|zR (bR)
theorem dH (l:List Int) (k:Nat) (n:Int) (hk:k≤l.length) (hl:l.length≤9223372036854775807) (h1:1≤n) (h2:n≤9223372036854775807):dh Tryz.prog 24 [.addr 1000000000000 0,ai n] [(1000000000000,⟨1,false,true,[.sl 1 (ax l),ai k]⟩)] (ai (gW l k n)) [(1000000000000,⟨1,false,true,[.sl 1 (ax l),ai (dU l k)]⟩)]:=by
 by_cases h:k<l.length
 ·have e1:gW l k n=fV (l.getD k 0) n:=if_pos h
  have e2:dU l k=k+1:=if_pos h
  have ew:IntKind.i64.wrap ((k:Int)+1)=((k+1:Nat):Int):=by rw [IntKind.wrap_i64];omega
  have ev:IntKind.i64.wrap (((k+1:Nat):Int)-1)=(k:Int):=by rw [IntKind.wrap_i64];omega
  rw [e1,e2]
  refine m6 Tryz.func24 35<|zq<|zS<|zP 1 [{hs:=[(8,{k:=l.length})],T:=9}] [.aa [14,4,0,1] [1000000000000]] [yB ((ax l).length=l.length) (ko _)]<|dt 14 ((↑k:Int)≥(↑l.length:Int))<|a_<|zP 2 [yH [(4,yV (ai (↑(k+1):Int)))],{hs:=[(8,yV (ai ↑k)),(9,{k:=k}),(10,yV (ai (l.getD k (0:Int)))),(12,yV (ai (↑(fV (l.getD k (0:Int)) n):Int)))],T:=12}] [.aa [4,14,0,1] [1000000000000]] [yB (ai (IntKind.i64.wrap ((↑k:Int)+1))=ai (↑(k+1):Int)) (dK aj aj),yL 2 2,yB (ai (IntKind.i64.wrap ((↑(k+1):Int)-1))=ai ↑k) (congrArg (fun n=>AV.val (.int .i64 n)) ev),yR (↑k:Int),yB (k<(ax l).length) (by simp only [ko];omega),yB ((ax l)[k]?=some (ai (l.getD k (0:Int)))) (lZ aj),yI (sZ (l.getD k (0:Int)) n h1 h2)]<|zR (zG [] [yR (Value.int .i64 (↑(fV (l.getD k (0:Int)) n):Int)),yR [AV.sl 1 (ax l),ai (↑(k+1):Int)]])
 ·have e1:gW l k n=0:=if_neg h
  have e2:dU l k=k:=if_neg h
  rw [e1,e2]
  refine m6 Tryz.func24 35<|zq<|zS<|zP 1 [{hs:=[(8,{k:=l.length})],T:=9}] [.aa [14,4,0,1] [1000000000000]] [yB ((ax l).length=l.length) (ko _)]<|gU 14 ((↑k:Int)≥(↑l.length:Int))<|zq<|dn (zG [] [yR (Value.int .i64 0),yR [AV.sl 1 (ax l),ai ↑k]])
theorem dQ {l:List Int} {k:Nat} (h:k≤l.length):dU l k≤l.length:=by unfold dU;split<;>omega
theorem lG (l:List Int) (k:Nat) {n:Int} (h:1≤n):(gW l k n:Int)<n:=by
 unfold gW
 split
 ·unfold fV
  have:=Int.emod_lt_of_pos (l.getD k 0%18446744073709551616) (aj:0<n)
  have:=Int.emod_nonneg (l.getD k 0%18446744073709551616) (aj:n≠0)
  omega
 ·omega
structure sR where
 cw:gX
 log:List eP
 nx:Nat->Int
def kk (c:sR):List AV:=[ai c.cw.aB,aw c.cw.head,ai c.cw.bA,.sl 4 (ae aF c.cw.al),.sl 7 (ae bg c.cw.aO),.sl 17 (ae a7 c.log),ai (c.nx 0),ai (c.nx 1),ai (c.nx 2),ai (c.nx 3),ai (c.nx 4),ai (c.nx 5),ai (c.nx 6),ai (c.nx 7),ai (c.nx 8),ai (c.nx 9)]
def yW (f:Nat->Int):List AV:=[ai (f 0),ai (f 1),ai (f 2),ai (f 3),ai (f 4),ai (f 5),ai (f 6),ai (f 7),ai (f 8),ai (f 9)]
def k8:sR:=⟨dd (dz 0),[],fun _=>0⟩
theorem Gh:bL Tryz.prog 15 [] (.agg (kk k8)):=by
 have hm:=gu 0 aj
 have hn:=BV (dz 0) (Nat.le_of_ble_eq_true rfl)
 unfold k8
 generalize dd (dz 0)=G at *
 refine zO Tryz.func15 10<|zP 3 [{},yH [(0,yV (AV.agg (aF (dz 0)))),(1,{av:=some (AV.bt [AV.agg [ai G.aB,aw G.head,ai G.bA,AV.sl 4 (ae aF G.al),AV.own 7 (ae bg G.aO)],ai (iG (dz 0))]),b:=false})],{}] [.aa [1,0] [0,1,501005]] [yI hm,yI hn,yL 5 5,yL 16 16]<|bf.sU [.gP 501005] bk<|bf.oQ (bS.ME 0 [(5,17)] bk)<|zR (zV ([yR (Value.int .i64 G.aB),yR (Value.int .u64 (wv G.head)),yR (Value.int .i64 G.bA),yR (ae aF G.al),yR (ae bg G.aO),yB ([]=ae a7 []) rfl]++yM 10 (yR (Value.int .i64 0))))
theorem Fp (l:List Int) (k:Nat) (hk:k≤l.length) (hl:l.length≤9223372036854775807):dh Tryz.prog 28 [.addr 1000000000000 0] [(1000000000000,⟨1,false,true,[.sl 1 (ax l),ai k]⟩)] (ao (decide (k<l.length))) [(1000000000000,⟨1,false,true,[.sl 1 (ax l),ai k]⟩)]:=by
 refine m6 Tryz.func28 13<|zP 2 [{},{hs:=[(8,{k:=l.length})],T:=9}] [.aa [2,0] [1000000000000]] [yB ((ax l).length=l.length) (ko _)]<|zR (zG [] [yB (Value.bool (decide ((↑k:Int)<(↑l.length:Int)))=Value.bool (decide (k<l.length))) (by simp),yR [AV.sl 1 (ax l),ai ↑k]])
def OO (c:sR) (j:Nat) (m:Nat):Prop:=(c.cw.al.getD m default).name=(dz j).name∧c.nx j<16
instance (c:sR) (j m:Nat):Decidable (OO c j m):=inferInstanceAs (Decidable (_∧_))
def mW (c:sR) (j:Nat) (s:Nat×Nat):Nat->Nat×Nat
 | 0=>s
 | m+1=>if OO c j m then ((mW c j s m).1|||2^j,(mW c j s m).2+1) else mW c j s m
def kZ (c:sR) (k:Nat):Nat->Nat×Nat
 | 0=>(0,0)
 | i+1=>if ((kZ c k i).2:Int)<c.cw.bA then mW c (fV ((i:Int)+k) 10) (kZ c k i) c.cw.al.length else kZ c k i
def vC (c:sR) (k:Nat):Nat:=(kZ c k 10).1
theorem OU (f:Nat->Int) {j:Nat} (h:j<10):(yW f)[j]?=some (ai (f j)):=by
 rcases j with _|_|_|_|_|_|_|_|_|_|j<;>first|rfl|omega
theorem B3 (c:sR) {j:Nat} (hj:j<10) {s:Nat×Nat} (hs:s.1<1024):∀m,(mW c j s m).1<1024∧(mW c j s m).2≤s.2+m
 | 0=>⟨hs,Nat.le_refl _⟩
 | m+1=>by
  have ih:=B3 c hj hs m
  unfold mW
  split
  ·refine ⟨Nat.or_lt_two_pow (n:=10) ih.1 (Nat.pow_lt_pow_right (by decide) hj),?_⟩
   show _+1≤_
   omega
  ·exact ⟨ih.1,aj⟩
theorem xu (c:sR) (k:Nat):∀i,(kZ c k i).1<1024∧(kZ c k i).2≤i*c.cw.al.length
 | 0=>⟨Nat.zero_lt_succ _,Nat.zero_le _⟩
 | i+1=>by
  have ih:=xu c k i
  unfold kZ
  split
  ·have hj:=s5 ((i:Int)+k) (n:=10) aj
   have:=B3 c (j:=fV ((i:Int)+k) 10) aj ih.1 c.cw.al.length
   refine ⟨this.1,Nat.le_trans this.2 ?_⟩
   rw [Nat.succ_mul];omega
  ·refine ⟨ih.1,Nat.le_trans ih.2 ?_⟩
   rw [Nat.succ_mul];omega
theorem wx (c:sR) (k:Nat) {i:Nat} (h:¬((kZ c k i).2:Int)<c.cw.bA):∀d,kZ c k (i+d)=kZ c k i
 | 0=>rfl
 | d+1=>by
  have ih:=wx c k h d
  show (if ((kZ c k (i+d)).2:Int)<c.cw.bA then _ else kZ c k (i+d))=_
  rw [ih,if_neg h]
theorem NA (c:sR) {j:Nat} (h:j<10):(kk c)[j+6]?=some (ai (c.nx j)):=by
 rcases j with _|_|_|_|_|_|_|_|_|_|j<;>first|rfl|omega
theorem Ms {j:Nat} (h:j<10):IntKind.i64.wrap (1*2^min ((j:Nat):Int).toNat IntKind.i64.bits)=((2^j:Nat):Int):=by
 have key:∀j:Fin 10,IntKind.i64.wrap (1*2^min ((j.val:Nat):Int).toNat IntKind.i64.bits)=((2^j.val:Nat):Int):=by decide
 exact key ⟨j,h⟩
theorem MB {a b:Nat} (ha:a<1024) (hb:b<1024):IntKind.i64.wrap ((BitVec.ofInt IntKind.i64.bits (a:Int)|||BitVec.ofInt IntKind.i64.bits (b:Int)).toNat:Nat)=((a|||b:Nat):Int):=by
 have dj:=Nat.or_lt_two_pow (n:=10) (x:=a) (y:=b) ha hb
 rw [BitVec.toNat_or,BitVec.toNat_ofInt,BitVec.toNat_ofInt,show ((a:Int)%((2^IntKind.i64.bits:Nat):Int)).toNat=a by show ((a:Int)%18446744073709551616).toNat=a;omega,show ((b:Int)%((2^IntKind.i64.bits:Nat):Int)).toNat=b by show ((b:Int)%18446744073709551616).toNat=b;omega,IntKind.wrap_i64]
 omega
theorem B2 (c:sR) (k:Nat) (hk:k<10) (hm:c.cw.al.length≤8):bL Tryz.prog 29 [.agg (kk c),ai k] (ai (vC c k)):=by
 have m7:(ae aF c.cw.al).length=c.cw.al.length*4:=aG (e:=4) (fun _=>rfl) ..
 refine zO Tryz.func29 59<|zQ 2 [{},{}] []<|zS<|zq<|zB 0 (zL (fun (i:Nat)=>(⟨[(4,ai 0),(2,AV.addr 2 0),(0,AV.agg [ai c.cw.aB,aw c.cw.head,ai c.cw.bA,AV.sl 4 (ae aF c.cw.al),AV.sl 7 (ae bg c.cw.aO),AV.sl 17 (ae a7 c.log),ai (c.nx 0),ai (c.nx 1),ai (c.nx 2),ai (c.nx 3),ai (c.nx 4),ai (c.nx 5),ai (c.nx 6),ai (c.nx 7),ai (c.nx 8),ai (c.nx 9)]),(1,ai ↑k),(7,ai i),(5,ai (kZ c k i).1),(6,ai (kZ c k i).2)],[(2,⟨1,false,true,List.map (aE 2) (kk c)⟩)]⟩:AS)) (fun i=>(i≤10)) (fun i=>(10-i)) (0) ?_ (zW [.aa [4,2,0,1,7,5,6] [2]]) ?_)
 ·omega
 intro i hi
 have hb:=xu c k i
 have rj:i*c.cw.al.length≤80:=Nat.mul_le_mul hi hm
 by_cases c1:i<10
 case neg =>
  have e:i=10:=aj
  subst e
  refine zS<|zP 1 [yH ([(8,{b:=false})]++yg [3,4,5,6,7])] [.aa [18,4,2,0,1,7,5,6] [2]] (yM 6 (yR false))<|zF 18<|zE 0<|ba<|aS<|br<|aq<|zP 1 [{}] [.aa [4,18,2,0,1,7,5,6] [2]] []<|zR (bR)
 by_cases c2:((kZ c k i).2:Int)<c.cw.bA
 case neg =>
  have hs:=wx c k c2 (10-i)
  rw [show i+(10-i)=10 by omega] at hs
  refine zS<|zP 1 [{}] [.aa [18,4,2,0,1,7,5,6] [2]] (yM 6 (yT ((↑i:Int)<10)))<|dt 18 ((↑(kZ c k i).snd:Int)<c.cw.bA)<|zE 0<|ba<|aS<|br<|aq<|zq<|zR (zV [yJ (↑(kZ c k i).fst:Int) (↑(vC c k):Int) (by unfold vC;rw [hs])])
 obtain ⟨j,hj⟩:∃j,j=fV ((i:Int)+k) 10:=⟨_,rfl⟩
 have Cs:j<10:=by have:=s5 ((i:Int)+k) (n:=10) aj;omega
 have dS:kZ c k (i+1)=mW c j (kZ c k i) c.cw.al.length:=by show (if _ then _ else _)=_;rw [if_pos c2,←hj]
 have LO:=NA c Cs
 have y0:=gu j Cs
 have Rl:IntKind.u64.wrap ((j:Nat):Int)=(j:Int):=by rw [IntKind.wrap_u64];omega
 have U2:=fun m=>B3 c Cs hb.1 m
 generalize lJ:kZ c k i=s at *
 refine zS<|zP 1 [{}] [.aa [18,4,2,0,1,7,5,6] [2]] (yM 6 (yT ((↑i:Int)<10)))<|gU 18 ((↑s.snd:Int)<c.cw.bA)<|a_<|zS<|zB 1<|zP 2 [yH [(2,yV (ai ((↑i:Int)+(↑k:Int)))),(3,yV (ai (↑(fV ((↑i:Int)+(↑k:Int)) (10:Int)):Int))),(4,yV (ai ↑j))],{}] [.aa [9,8,18,4,2,0,1,7,5,6] [2]] [yN ((↑i:Int)+(↑k:Int)),yI (sZ ((↑i:Int)+(↑k:Int)) ((10:Int)) aj aj),yB (ai (↑(fV ((↑i:Int)+(↑k:Int)) (10:Int)):Int)=ai ↑j) (by rw [hj])]<|zB 2 (zL (fun (m:Nat)=>(⟨[(8,ai ↑j),(18,ao (decide ((↑s.snd:Int)<c.cw.bA))),(4,ai 0),(2,AV.addr 2 0),(0,AV.agg [ai c.cw.aB,aw c.cw.head,ai c.cw.bA,AV.sl 4 (ae aF c.cw.al),AV.sl 7 (ae bg c.cw.aO),AV.sl 17 (ae a7 c.log),ai (c.nx 0),ai (c.nx 1),ai (c.nx 2),ai (c.nx 3),ai (c.nx 4),ai (c.nx 5),ai (c.nx 6),ai (c.nx 7),ai (c.nx 8),ai (c.nx 9)]),(1,ai ↑k),(7,ai ↑i),(9,ai m),(5,ai (mW c j s m).1),(6,ai (mW c j s m).2)],[(2,⟨1,false,true,kk c⟩)]⟩:AS)) (fun m=>(m≤c.cw.al.length)) (fun m=>(c.cw.al.length-m)) (0) ?_ (zW [.aa [8,18,4,2,0,1,7,9,5,6] [2]]) ?_)
 ·omega
 intro m Ii
 have U1:=U2 m
 refine zS<|zP 1 [yH [(4,{k:=c.cw.al.length})]] [.aa [30,8,18,4,2,0,1,7,9,5,6] [2]] [yI m7] (zD 30 ((↑m:Int)<(↑c.cw.al.length:Int)) (fun q=>?_) (fun q=>?_))
 ·have RH:m<c.cw.al.length:=aj
  have gN:=nY RH
  by_cases cn:(c.cw.al.getD m default).name=(dz j).name
  case neg =>
   have h1:mW c j s (m+1)=mW c j s m:=if_neg (fun q=>cn q.1)
   refine a_<|zS<|zB 3<|zP 1 [{hs:=[(4,{k:=m}),(6,yV (cF (c.cw.al.getD m default).name)),(8,yV (AV.agg (aF (dz j)))),(10,yV (ao ((c.cw.al.getD m default).name == (dz j).name))),(12,{g:=false}),(13,{g:=false}),(14,{g:=false}),(15,{g:=false}),(16,{g:=false}),(17,{b:=false})],T:=14}] [.aa [50,30,8,18,4,2,0,1,7,9,5,6] [2]] ([yR (↑m:Int),yO (m*4<(ae aF c.cw.al).length),yB ((ae aF c.cw.al)[m*4]?=some (cF (c.cw.al.getD m default).name)) (bc (f:=aF) (e:=4) (k:=m) (j:=0) (fun _=>rfl) aj rfl),yI y0,yB (ao ((ByteArray.mk (c.cw.al.getD m default).name.toArray).toList == (ByteArray.mk (dz j).name.toArray).toList)=ao ((c.cw.al.getD m default).name == (dz j).name)) (fN ((c.cw.al.getD m default).name) ((dz j).name))]++yM 6 (yB (((c.cw.al.getD m default).name == (dz j).name)=false) (by simp_all)))<|zF 50<|zK<|aL<|aq<|zX (yH [(1,yV (ai ((↑m:Int)+1)))]) [yN ((↑m:Int)+1)] (aK (m+1) (by assumption) aj (eQ [.aa [8,18,4,2,0,1,7,9,5,6] [2]] [5,6] [] [yB (ai (↑(mW c j s m).fst:Int)=ai (↑(mW c j s (m+1)).fst:Int)) (by rw [h1]),yB (ai (↑(mW c j s m).snd:Int)=ai (↑(mW c j s (m+1)).snd:Int)) (by rw [h1])]))
  by_cases cx:c.nx j<16
  case neg =>
   have h1:mW c j s (m+1)=mW c j s m:=if_neg (fun q=>cx q.2)
   refine a_<|zS<|zB 3<|zP 1 [{hs:=[(4,{k:=m}),(6,yV (cF (c.cw.al.getD m default).name)),(8,yV (AV.agg (aF (dz j)))),(10,yV (ao ((c.cw.al.getD m default).name == (dz j).name))),(14,{k:=j}),(15,yV (ai (c.nx j)))],T:=14}] [.aa [50,30,8,18,4,2,0,1,7,9,5,6] [2]] ([yR (↑m:Int),yO (m*4<(ae aF c.cw.al).length),yB ((ae aF c.cw.al)[m*4]?=some (cF (c.cw.al.getD m default).name)) (bc (f:=aF) (e:=4) (k:=m) (j:=0) (fun _=>rfl) aj rfl),yI y0,yB (ao ((ByteArray.mk (c.cw.al.getD m default).name.toArray).toList == (ByteArray.mk (dz j).name.toArray).toList)=ao ((c.cw.al.getD m default).name == (dz j).name)) (fN ((c.cw.al.getD m default).name) ((dz j).name))]++yM 3 (yB (((c.cw.al.getD m default).name == (dz j).name)=true) (by simp_all))++ [yR (↑j:Int),yI Cs,yB (((c.cw.al.getD m default).name == (dz j).name)=true) (by simp_all),yI LO]++yM 2 (yB (((c.cw.al.getD m default).name == (dz j).name)=true) (by simp_all)))<|dt 50 (c.nx j<16)<|zK<|aL<|aq<|zX (yH [(1,yV (ai ((↑m:Int)+1)))]) [yN ((↑m:Int)+1)] (aK (m+1) (by assumption) aj (eQ [.aa [8,18,4,2,0,1,7,9,5,6] [2]] [5,6] [] [yB (ai (↑(mW c j s m).fst:Int)=ai (↑(mW c j s (m+1)).fst:Int)) (by rw [h1]),yB (ai (↑(mW c j s m).snd:Int)=ai (↑(mW c j s (m+1)).snd:Int)) (by rw [h1])]))
  have h1:mW c j s (m+1)=((mW c j s m).1|||2^j,(mW c j s m).2+1):=if_pos ⟨cn,cx⟩
  have Cn:=Ms Cs
  have s7:=MB (a:=(mW c j s m).1) (b:=2^j) aj (by have:=Nat.pow_lt_pow_right (a:=2) (by decide) Cs;omega)
  refine a_<|zS<|zB 3<|zP 1 [{hs:=[(4,{k:=m}),(6,yV (cF (c.cw.al.getD m default).name)),(8,yV (AV.agg (aF (dz j)))),(10,yV (ao ((c.cw.al.getD m default).name == (dz j).name))),(14,{k:=j}),(15,yV (ai (c.nx j)))],T:=14}] [.aa [50,30,8,18,4,2,0,1,7,9,5,6] [2]] ([yR (↑m:Int),yO (m*4<(ae aF c.cw.al).length),yB ((ae aF c.cw.al)[m*4]?=some (cF (c.cw.al.getD m default).name)) (bc (f:=aF) (e:=4) (k:=m) (j:=0) (fun _=>rfl) aj rfl),yI y0,yB (ao ((ByteArray.mk (c.cw.al.getD m default).name.toArray).toList == (ByteArray.mk (dz j).name.toArray).toList)=ao ((c.cw.al.getD m default).name == (dz j).name)) (fN ((c.cw.al.getD m default).name) ((dz j).name))]++yM 3 (yB (((c.cw.al.getD m default).name == (dz j).name)=true) (by simp_all))++ [yR (↑j:Int),yI Cs,yB (((c.cw.al.getD m default).name == (dz j).name)=true) (by simp_all),yI LO]++yM 2 (yB (((c.cw.al.getD m default).name == (dz j).name)=true) (by simp_all)))<|gU 50 (c.nx j<16)<|zP 1 [yH [(2,yV (AV.val (Value.int .u64 (↑j:Int)))),(3,yV (ai (↑((2:Nat)^j):Int))),(4,yV (ai (↑((mW c j s m).fst|||(2:Nat)^j):Int)))]] [.aa [5,50,30,8,18,4,2,0,1,7,9,6] [2]] [yB (AV.val (Value.int .u64 (IntKind.u64.wrap (↑j:Int)))=AV.val (Value.int .u64 (↑j:Int))) (congrArg (fun n=>AV.val (.int .u64 n)) Rl),yB (ai (IntKind.i64.wrap ((1:Int)*(2:Int)^min (↑j:Int).toNat IntKind.i64.bits))=ai (↑((2:Nat)^j):Int)) (congrArg (fun n=>AV.val (.int .i64 n)) Cn),yO ((0:Int)≤(↑j:Int)),yB (ai (IntKind.i64.wrap (↑(BitVec.ofInt IntKind.i64.bits (↑(mW c j s m).fst:Int)|||BitVec.ofInt IntKind.i64.bits (↑((2:Nat)^j):Int)).toNat:Int))=ai (↑((mW c j s m).fst|||(2:Nat)^j):Int)) (congrArg (fun n=>AV.val (.int .i64 n)) s7)]<|zX (yH [(1,yV (ai ((↑(mW c j s m).snd:Int)+1)))]) [yN ((↑(mW c j s m).snd:Int)+1)]<|aL<|aq<|zX (yH [(1,yV (ai ((↑m:Int)+1)))]) [yN ((↑m:Int)+1)] (aK (m+1) (by assumption) aj (eQ [.aa [8,18,4,2,0,1,7,9,5,6] [2]] [5,6] [] [yB (ai (↑((mW c j s m).fst|||(2:Nat)^j):Int)=ai (↑(mW c j s (m+1)).fst:Int)) (by rw [h1]),yB (ai ((↑(mW c j s m).snd:Int)+1)=ai (↑(mW c j s (m+1)).snd:Int)) (by rw [h1];rfl)]))
 ·have em:m=c.cw.al.length:=aj
  subst em
  refine zE 2<|ba<|aS<|br<|aL<|aq<|zX (yH [(1,yV (ai ((↑i:Int)+1)))]) [yN ((↑i:Int)+1)] (aK (i+1) (by assumption) aj (eQ [.aa [4,2,0,1,7,5,6] [2]] [5,6] [] [yB (ai (↑(mW c j s c.cw.al.length).fst:Int)=ai (↑(kZ c k (i+1)).fst:Int)) (by rw [dS]),yB (ai (↑(mW c j s c.cw.al.length).snd:Int)=ai (↑(kZ c k (i+1)).snd:Int)) (by rw [dS])]))
def GO (f:Nat->Int) (i:Nat) (v:Int):Nat->Int:=fun j=>if j=i then v else f j
def cA (e:eP) (nx:Nat->Int) (ez:Nat):Nat->eP×(Nat->Int)
 | 0=>(e,nx)
 | i+1=>if ez.testBit i=true∧lN (cA e nx ez i).1 (dz i).name 4 ((cA e nx ez i).2 i)=0 then (tB (cA e nx ez i).1 (dz i).name (300+u64 i) 4 ((cA e nx ez i).2 i),GO (cA e nx ez i).2 i ((cA e nx ez i).2 i+1)) else cA e nx ez i
theorem MC (f:Nat->Int) {i:Nat} (h:i<10) (v:Int):(yW f).set i (ai v)=yW (GO f i v):=by
 rcases i with _|_|_|_|_|_|_|_|_|_|i<;>first|rfl|omega
theorem HY (l:List gl) (v:gl):(Au l v).length=l.length+1:=by
 have:=D0 l v.name
 unfold Au
 simp only [List.length_append,List.length_take,List.length_drop,List.length_cons,List.length_nil]
 omega
theorem Mj {e:eP} (hB:mO e) {n:List UInt8} {seed:UInt64} {h leaf:Int} (hq:lN e n h leaf=0):mO (tB e n seed h leaf)∧(tB e n seed h leaf).ak.length=e.ak.length+1:=by
 have cf:tB e n seed h leaf= {e with ak:=Au e.ak ⟨n,oU h leaf,ox seed h leaf (df e),ow seed h leaf⟩}:=if_neg (fun q=>q hq)
 rw [cf]
 exact ⟨⟨hB.OW,hB.dep⟩,HY _ _⟩
theorem xe {e:eP} (hB:mO e) (nx:Nat->Int) (ez:Nat):∀i,mO (cA e nx ez i).1∧(cA e nx ez i).1.ak.length≤e.ak.length+i
 | 0=>⟨hB,Nat.le_refl _⟩
 | i+1=>by
  obtain ⟨h1,h2⟩:=xe hB nx ez i
  unfold cA
  split
  ·rename_i q
   obtain ⟨h3,h4⟩:=Mj (seed:=300+u64 i) h1 q.2
   exact ⟨h3,by show (tB _ _ _ _ _).ak.length≤_;omega⟩
  ·exact ⟨h1,aj⟩
theorem GI {e:eP} {n:List UInt8} {leaf:Int} (h:lN e n 4 leaf=0):0≤leaf∧leaf<16:=by
 have hs:wi 4 leaf=0:=by
  unfold lN at h
  split at h
  ·rename_i q;exact absurd h q
  split at h
  ·omega
  ·exact h
 have nb:¬i7 4 leaf:=by
  intro q;unfold wi at hs;rw [if_pos q] at hs;omega
 unfold i7 at nb
 have:(2:Nat)^(4:Int).toNat=16:=rfl
 omega
theorem Mn {w i:Nat} (hw:w<1024) (hi:i<10):IntKind.i64.wrap ((BitVec.ofInt IntKind.i64.bits ((w/2^i:Nat):Int)&&&BitVec.ofInt IntKind.i64.bits 1).toNat:Nat)=if w.testBit i=true then 1 else 0:=by
 rw [BitVec.toNat_and,BitVec.toNat_ofInt,BitVec.toNat_ofInt,show ((1:Int)%((2^IntKind.i64.bits:Nat):Int)).toNat=1 by rfl]
 have hq:w/2^i<1024:=Nat.lt_of_le_of_lt (Nat.div_le_self _ _) hw
 rw [Nat.testBit_eq_decide_div_mod_eq]
 generalize w/2^i=q at *
 rw [show (((q:Nat):Int)%((2^IntKind.i64.bits:Nat):Int)).toNat=q by show (((q:Nat):Int)%18446744073709551616).toNat=_;omega]
 rw [Nat.and_one_is_mod]
 have:q%2<2:=Nat.mod_lt _ (by decide)
 by_cases c:q%2=1
 ·rw [c];decide
 ·rw [show q%2=0 by omega];decide
theorem J8 (w:Nat) {i:Nat} (hi:i<10):((w:Nat):Int).fdiv (2^min ((i:Nat):Int).toNat IntKind.i64.bits)=((w/2^i:Nat):Int):=by
 rw [show min ((i:Nat):Int).toNat IntKind.i64.bits=i from Nat.min_eq_left (by show i≤64;omega),Int.fdiv_eq_ediv_of_nonneg _ (Int.pow_nonneg (by decide))]
 push_cast
 rfl
theorem BK (m_:∀e,mO e->bL Tryz.prog 40 [.agg (a7 e)] (.bt [.own 1 (ag (fo e)),ai (eu e)])) (c:sR) (e:eP) (ez:Nat) (hw:ez<1024) (hB:mO e) (hv:e.ak.length≤900000):bL Tryz.prog 22 [.agg (kk c),.agg (a7 e),ai ez] (.bt [.agg (a7 (cA e c.nx ez 10).1),.arr (yW (cA e c.nx ez 10).2)]):=by
 refine zO Tryz.func22 48<|zP 2 [yH [(3,yV (AV.arr (ax (List.replicate 10 (0:Int)))))],yH [(1,yV (AV.agg [ai (c.nx 0),ai (c.nx 1),ai (c.nx 2),ai (c.nx 3),ai (c.nx 4),ai (c.nx 5),ai (c.nx 6),ai (c.nx 7),ai (c.nx 8),ai (c.nx 9)])),(2,yV (AV.arr (ax (List.replicate 10 (0:Int)))))]] [.aa [8,7,6,4,3,0,1,2] [8,7,6,4,3]] [yR (ax (List.replicate 10 (0:Int))),yR (List.take 10 (List.drop 6 (List.map (aE 7) (List.map (aE 6) (List.map (aE 4) (List.map (aE 3) (kk c))))))),yR 10,yR (ax (List.replicate 10 (0:Int))),yL 10 10]<|zS<|zq<|zB 0 (zL (fun (i:Nat)=>(⟨[(8,AV.addr 8 0),(7,AV.addr 7 0),(6,AV.addr 6 0),(4,AV.addr 4 0),(3,AV.addr 3 0),(0,AV.agg [ai c.cw.aB,aw c.cw.head,ai c.cw.bA,AV.sl 4 (ae aF c.cw.al),AV.sl 7 (ae bg c.cw.aO),AV.sl 17 (ae a7 c.log),ai (c.nx 0),ai (c.nx 1),ai (c.nx 2),ai (c.nx 3),ai (c.nx 4),ai (c.nx 5),ai (c.nx 6),ai (c.nx 7),ai (c.nx 8),ai (c.nx 9)]),(1,AV.agg (a7 e)),(2,ai ↑ez),(9,ai i)],[(7,⟨1,true,true,ax (List.replicate 10 (0:Int))⟩),(6,⟨1,false,true,[ai 0,cQ,ai 0,AV.val (Value.string (ByteArray.mk #[])),ai 0,cQ,ai 0,cQ,cQ,AV.nil,AV.nil,AV.nil,ai 0,cQ,cQ,cQ,AV.nil]⟩),(3,⟨1,false,true,List.map (aE 8) (List.map (aE 7) (List.map (aE 6) (List.map (aE 4) (List.map (aE 3) (kk c)))))⟩),(4,⟨1,false,true,a7 (cA e c.nx ez i).1⟩),(8,⟨1,true,true,yW (cA e c.nx ez i).2⟩)]⟩:AS)) (fun i=>(i≤10)) (fun i=>(10-i)) (0) ?_ (zW [.aa [8,7,6,4,3,0,1,2,9] [7,6,3,4,8]]) ?_)
 ·omega
 intro i hi
 obtain ⟨b1,b2⟩:=xe hB c.nx ez i
 refine zS<|bf.jH 1 [{}] bk (s':=AS.mk [(15,ao (decide ((↑i:Int)<10))),(14,ai ↑i),(8,AV.addr 8 0),(7,AV.addr 7 0),(6,AV.addr 6 0),(4,AV.addr 4 0),(3,AV.addr 3 0),(0,AV.agg [ai c.cw.aB,aw c.cw.head,ai c.cw.bA,AV.sl 4 (ae aF c.cw.al),AV.sl 7 (ae bg c.cw.aO),AV.sl 17 (ae a7 c.log),ai (c.nx 0),ai (c.nx 1),ai (c.nx 2),ai (c.nx 3),ai (c.nx 4),ai (c.nx 5),ai (c.nx 6),ai (c.nx 7),ai (c.nx 8),ai (c.nx 9)]),(1,AV.agg (a7 e)),(2,ai ↑ez),(9,ai ↑i)] [(7,Row.mk 1 true true (ax (List.replicate 10 (0:Int)))),(6,Row.mk 1 false true [ai 0,cQ,ai 0,AV.val (Value.string (ByteArray.mk #[])),ai 0,cQ,ai 0,cQ,cQ,AV.nil,AV.nil,AV.nil,ai 0,cQ,cQ,cQ,AV.nil]),(3,Row.mk 1 false true (List.map (aE 8) (List.map (aE 7) (List.map (aE 6) (List.map (aE 4) (List.map (aE 3) (kk c))))))),(4,Row.mk 1 false true (a7 (cA e c.nx ez i).fst)),(8,Row.mk 1 true true (yW (cA e c.nx ez i).snd))]) (C:=[]) bk trivial (zD 15 ((↑i:Int)<10) (fun q=>?_) (fun q=>?_))
 ·have dM:i<10:=aj
  have PU:=m_ _ b1
  have y0:=gu i dM
  have Bv:=zY (cA e c.nx ez i).1 (dz i).name (300+u64 i) 4 ((cA e c.nx ez i).2 i) aj PU
  have LO:=OU (cA e c.nx ez i).2 dM
  have Ug:=MC (cA e c.nx ez i).2 dM ((cA e c.nx ez i).2 i+1)
  have MI:IntKind.u64.wrap ((i:Nat):Int)=(i:Int):=by rw [IntKind.wrap_u64];omega
  have Fy:=J8 ez dM
  have Pc:=Mn hw dM
  have dS:cA e c.nx ez (i+1)=if ez.testBit i=true∧lN (cA e c.nx ez i).1 (dz i).name 4 ((cA e c.nx ez i).2 i)=0 then (tB (cA e c.nx ez i).1 (dz i).name (300+u64 i) 4 ((cA e c.nx ez i).2 i),GO (cA e c.nx ez i).2 i ((cA e c.nx ez i).2 i+1)) else cA e c.nx ez i:=rfl
  generalize cA e c.nx ez i=S at *
  clear m_ PU
  by_cases tb:ez.testBit i=true
  case neg =>
   rw [if_neg tb] at Pc
   rw [if_neg (fun q=>tb q.1)] at dS
   refine a_<|zS<|zB 1<|zS<|zP 1 [yH [(2,yV (AV.val (Value.int .u64 (↑i:Int)))),(3,yV (ai (↑(ez/(2:Nat)^i):Int))),(4,yV (ai 0))]] [.aa [23,15,8,7,6,4,3,0,1,2,9] [7,6,3,4,8]] [yB (AV.val (Value.int .u64 (IntKind.u64.wrap (↑i:Int)))=AV.val (Value.int .u64 (↑i:Int))) (congrArg (fun n=>AV.val (.int .u64 n)) MI),yB (ai ((↑ez:Int).fdiv ((2:Int)^min (↑i:Int).toNat IntKind.i64.bits))=ai (↑(ez/(2:Nat)^i):Int)) (congrArg (fun n=>AV.val (.int .i64 n)) Fy),yO ((0:Int)≤(↑i:Int)),yB (ai (IntKind.i64.wrap (↑(BitVec.ofInt IntKind.i64.bits (↑(ez/(2:Nat)^i):Int)&&&BitVec.ofInt IntKind.i64.bits (1:Int)).toNat:Int))=ai 0) (congrArg (fun n=>AV.val (.int .i64 n)) Pc)]<|dB 23 ((0:Int) == (0:Int)) fg<|zE 1<|ba<|br<|aq<|zX (yH [(1,yV (ai ((↑i:Int)+1)))]) [yN ((↑i:Int)+1)] (aK (i+1) (by assumption) aj (eQ [.aa [8,7,6,4,3,0,1,2,9] [7,6,3,4,8]] [] [4,8] [yB (a7 S.fst=a7 (cA e c.nx ez (i+1)).fst) (by rw [dS]),yB (yW S.snd=yW (cA e c.nx ez (i+1)).snd) (by rw [dS])]))
  rw [if_pos tb] at Pc
  by_cases cq:lN S.1 (dz i).name 4 (S.2 i)=0
  case neg =>
   rw [if_neg (fun q=>cq q.2)] at dS
   have Rm:BC S.1 (dz i).name (300+u64 i) 4 (S.2 i)=y7:=if_neg cq
   rw [Rm] at Bv
   refine a_<|zS<|zB 1<|zS<|zP 1 [yH [(2,yV (AV.val (Value.int .u64 (↑i:Int)))),(3,yV (ai (↑(ez/(2:Nat)^i):Int))),(4,yV (ai 1)),(5,yV (ao false))]] [.aa [23,15,8,7,6,4,3,0,1,2,9] [7,6,3,4,8]] [yB (AV.val (Value.int .u64 (IntKind.u64.wrap (↑i:Int)))=AV.val (Value.int .u64 (↑i:Int))) (congrArg (fun n=>AV.val (.int .u64 n)) MI),yB (ai ((↑ez:Int).fdiv ((2:Int)^min (↑i:Int).toNat IntKind.i64.bits))=ai (↑(ez/(2:Nat)^i):Int)) (congrArg (fun n=>AV.val (.int .i64 n)) Fy),yB ((0:Int)≤(↑i:Int)) (by simp [cq]),yB (ai (IntKind.i64.wrap (↑(BitVec.ofInt IntKind.i64.bits (↑(ez/(2:Nat)^i):Int)&&&BitVec.ofInt IntKind.i64.bits (1:Int)).toNat:Int))=ai 1) (congrArg (fun n=>AV.val (.int .i64 n)) Pc),yR (ao false)]<|zF 23<|a_<|zS<|y8 16 [14,15] [(2,yV (AV.agg (aF (dz i)))),(5,yV (aw (u64 (↑i:Int)))),(6,yV (aw (300+u64 (↑i:Int)))),(8,{k:=i}),(9,yV (ai (S.snd i))),(10,yV (AV.bt [AV.agg [ai 0,aw 0,ai 0,AV.val (Value.string (ByteArray.mk #[])),ai 0,aw 0,ai 0,aw 0,aw 0,AV.nil,AV.nil,AV.nil,ai 0,aw 0,aw 0,aw 0,AV.nil],ai (lN S.fst (dz i).name (4:Int) (S.snd i))]))] ([yI y0,yI (aY ((↑i:Int))),yR (aw (300+u64 (↑i:Int))),yR (↑i:Int),yI dM,yI LO,yI Bv,yR (AV.agg (a7 S.fst)),yR (ai ↑i),yR (AV.agg (aF (dz i))),yI y0,yR (cF (dz i).name),yR (ai ↑i),yR (aw (u64 (↑i:Int))),yI (aY ((↑i:Int)))]++yM 2 (yR (aw (300+u64 (↑i:Int))))++ [yR (ai ↑i),yR (AV.addr 8 i),yR (↑i:Int),yI dM,yR (ai (S.snd i)),yI LO,yR (AV.bt [AV.agg [ai 0,aw 0,ai 0,AV.val (Value.string (ByteArray.mk #[])),ai 0,aw 0,ai 0,aw 0,aw 0,AV.nil,AV.nil,AV.nil,ai 0,aw 0,aw 0,aw 0,AV.nil],ai (lN S.fst (dz i).name (4:Int) (S.snd i))]),yI Bv,yR (AV.bt [AV.agg [ai 0,aw 0,ai 0,AV.val (Value.string (ByteArray.mk #[])),ai 0,aw 0,ai 0,aw 0,aw 0,AV.nil,AV.nil,AV.nil,ai 0,aw 0,aw 0,aw 0,AV.nil],ai (lN S.fst (dz i).name (4:Int) (S.snd i))]),yR (AV.agg [ai 0,aw 0,ai 0,AV.val (Value.string (ByteArray.mk #[])),ai 0,aw 0,ai 0,aw 0,aw 0,AV.nil,AV.nil,AV.nil,ai 0,aw 0,aw 0,aw 0,AV.nil]),yR (ai (lN S.fst (dz i).name (4:Int) (S.snd i))),yL 17 17,yR (ai (lN S.fst (dz i).name (4:Int) (S.snd i)))])<|aq<|bf.sU [.aa [11,32,10,23,15,8,7,6,4,3,0,1,2,9] [10,7,6,3,4,8]] bk<|zP 1 [yH [(1,yV (ao false))]] [.aa [39,11,32,10,23,15,8,7,6,4,3,0,1,2,9] [10,7,6,3,4,8]] [yB (ao (lN S.fst (dz i).name (4:Int) (S.snd i) == (0:Int))=ao false) (by simp [cq])]<|zF 39<|zK<|aL<|aq<|zX (yH [(1,yV (ai ((↑i:Int)+1)))]) [yN ((↑i:Int)+1)] (aK (i+1) (by assumption) aj (eQ [.aa [8,7,6,4,3,0,1,2,9] [7,6,3,4,8]] [] [4,8] [yB (List.map (aE 10) (List.map (aE 10) (a7 S.fst))=a7 (cA e c.nx ez (i+1)).fst) (by rw [dS];rfl),yB (yW S.snd=yW (cA e c.nx ez (i+1)).snd) (by rw [dS])]))
  rw [if_pos ⟨tb,cq⟩] at dS
  have hl:=GI cq
  have Rm:BC S.1 (dz i).name (300+u64 i) 4 (S.2 i)=a7 (tB S.1 (dz i).name (300+u64 i) 4 (S.2 i)):=if_pos cq
  rw [Rm,cq] at Bv
  have Uc:IntKind.i64.wrap (S.2 i+1)=S.2 i+1:=by rw [IntKind.wrap_i64];omega
  generalize tB S.1 (dz i).name (300+u64 i) 4 (S.2 i)=F at *
  refine a_<|zS<|zB 1<|zS<|zP 1 [yH [(2,yV (AV.val (Value.int .u64 (↑i:Int)))),(3,yV (ai (↑(ez/(2:Nat)^i):Int))),(4,yV (ai 1))]] [.aa [23,15,8,7,6,4,3,0,1,2,9] [7,6,3,4,8]] [yB (AV.val (Value.int .u64 (IntKind.u64.wrap (↑i:Int)))=AV.val (Value.int .u64 (↑i:Int))) (congrArg (fun n=>AV.val (.int .u64 n)) MI),yB (ai ((↑ez:Int).fdiv ((2:Int)^min (↑i:Int).toNat IntKind.i64.bits))=ai (↑(ez/(2:Nat)^i):Int)) (congrArg (fun n=>AV.val (.int .i64 n)) Fy),yO ((0:Int)≤(↑i:Int)),yB (ai (IntKind.i64.wrap (↑(BitVec.ofInt IntKind.i64.bits (↑(ez/(2:Nat)^i):Int)&&&BitVec.ofInt IntKind.i64.bits (1:Int)).toNat:Int))=ai 1) (congrArg (fun n=>AV.val (.int .i64 n)) Pc)]<|bn 23 ((1:Int) == (0:Int)) bE<|a_<|zS<|y8 16 [14,15] [(2,yV (AV.agg (aF (dz i)))),(5,yV (aw (u64 (↑i:Int)))),(6,yV (aw (300+u64 (↑i:Int)))),(8,{k:=i}),(9,yV (ai (S.snd i))),(10,{av:=some (AV.bt [AV.agg (a7 F),ai 0]),b:=false})] ([yI y0,yI (aY ((↑i:Int))),yR (aw (300+u64 (↑i:Int))),yR (↑i:Int),yI dM,yI LO,yI Bv,yR (AV.agg (a7 S.fst)),yR (ai ↑i),yR (AV.agg (aF (dz i))),yI y0,yR (cF (dz i).name),yR (ai ↑i),yR (aw (u64 (↑i:Int))),yI (aY ((↑i:Int)))]++yM 2 (yR (aw (300+u64 (↑i:Int))))++ [yR (ai ↑i),yR (AV.addr 8 i),yR (↑i:Int),yI dM,yR (ai (S.snd i)),yI LO,yR (AV.bt [AV.agg (a7 F),ai 0]),yI Bv,yR (AV.bt [AV.agg (a7 F),ai 0]),yR (AV.agg (a7 F)),yR (ai 0),yL 17 17,yR (ai 0)])<|aq<|bf.sU [.aa [11,32,10,23,15,8,7,6,4,3,0,1,2,9] [10,7,6,3,4,8]] bk<|zq<|dB 39 ((0:Int) == (0:Int)) fg<|zP 1 [{}] [.aa [39,11,32,10,23,15,8,7,6,4,3,0,1,2,9] [4,10,7,6,3,8]] [yL 17 17]<|zX (yH [(1,{k:=i}),(2,yV (ai (S.snd i))),(3,yV (ai (S.snd i+1))),(4,{k:=i}),(5,yV (AV.arr (yW (GO S.snd i (S.snd i+1)))))]) [yR (↑i:Int),yI dM,yI LO,yN (S.snd i+1),yR (↑i:Int),yI dM,yI Ug,yB (i+1≤10) (by assumption)]<|aL<|aq<|zX (yH [(1,yV (ai ((↑i:Int)+1)))]) [yN ((↑i:Int)+1)] (aK (i+1) (by assumption) aj (eQ [.aa [8,7,6,4,3,0,1,2,9] [7,6,3,4,8]] [] [4,8] [yB (List.map (aE 10) (List.take 0 (List.map (aE 10) (a7 S.fst))++(a7 F)++List.drop 17 (List.map (aE 10) (a7 S.fst)))=a7 (cA e c.nx ez (i+1)).fst) (by rw [dS];rfl),yB (yW (GO S.snd i (S.snd i+1))=yW (cA e c.nx ez (i+1)).snd) (by rw [dS])]))
 ·have ei:i=10:=aj
  subst ei
  refine zE 0<|ba<|aS<|br<|aq<|zS<|y8 3 [2] [(0,yV (AV.agg [ai ((cA e c.nx ez 10).fst.aB),aw ((cA e c.nx ez 10).fst.prev),ai ((cA e c.nx ez 10).fst.kind),cF (cA e c.nx ez 10).fst.name,ai ((cA e c.nx ez 10).fst.kh),aw ((cA e c.nx ez 10).fst.kr),ai ((cA e c.nx ez 10).fst.bA),aw ((cA e c.nx ez 10).fst.dep.bZ),aw ((cA e c.nx ez 10).fst.dep.peer),AV.sl 1 (ag (cA e c.nx ez 10).fst.dep.box),AV.sl 1 (ae ay (cA e c.nx ez 10).fst.dep.af),AV.sl 1 (ah (cA e c.nx ez 10).fst.dep.au),ai ((cA e c.nx ez 10).fst.dep.need),aw ((cA e c.nx ez 10).fst.dep.target),aw ((cA e c.nx ez 10).fst.bZ),aw ((cA e c.nx ez 10).fst.target),AV.sl 4 (ae aP (cA e c.nx ez 10).fst.ak)])),(1,yV (AV.agg [ai ((cA e c.nx ez 10).snd 0),ai ((cA e c.nx ez 10).snd 1),ai ((cA e c.nx ez 10).snd 2),ai ((cA e c.nx ez 10).snd 3),ai ((cA e c.nx ez 10).snd 4),ai ((cA e c.nx ez 10).snd 5),ai ((cA e c.nx ez 10).snd 6),ai ((cA e c.nx ez 10).snd 7),ai ((cA e c.nx ez 10).snd 8),ai ((cA e c.nx ez 10).snd 9)]))] [yR (List.take 17 (List.drop 0 (a7 (cA e c.nx ez 10).fst))),yR 17,yR (List.take 10 (List.drop 0 (yW (cA e c.nx ez 10).snd))),yR 10,yL 17 17,yR (AV.agg [ai ((cA e c.nx ez 10).snd 0),ai ((cA e c.nx ez 10).snd 1),ai ((cA e c.nx ez 10).snd 2),ai ((cA e c.nx ez 10).snd 3),ai ((cA e c.nx ez 10).snd 4),ai ((cA e c.nx ez 10).snd 5),ai ((cA e c.nx ez 10).snd 6),ai ((cA e c.nx ez 10).snd 7),ai ((cA e c.nx ez 10).snd 8),ai ((cA e c.nx ez 10).snd 9)]),yR (List.take 10 (List.drop 0 (yW (cA e c.nx ez 10).snd))),yR 10,yL 10 10]<|aq<|bf.sU [.aa [15,8,7,6,4,3,0,1,2,9] [7,6,3,4,8]] bk<|zR (zV [yR 10,yR (Value.int .i64 (cA e c.nx ez 10).fst.aB),yR (Value.int .u64 (wv (cA e c.nx ez 10).fst.prev)),yR (Value.int .i64 (cA e c.nx ez 10).fst.kind),yR (Value.string (ByteArray.mk (cA e c.nx ez 10).fst.name.toArray)),yR (Value.int .i64 (cA e c.nx ez 10).fst.kh),yR (Value.int .u64 (wv (cA e c.nx ez 10).fst.kr)),yR (Value.int .i64 (cA e c.nx ez 10).fst.bA),yR (Value.int .u64 (wv (cA e c.nx ez 10).fst.dep.bZ)),yR (Value.int .u64 (wv (cA e c.nx ez 10).fst.dep.peer)),yR (ag (cA e c.nx ez 10).fst.dep.box),yR (ae ay (cA e c.nx ez 10).fst.dep.af),yR (ah (cA e c.nx ez 10).fst.dep.au),yR (Value.int .i64 (cA e c.nx ez 10).fst.dep.need),yR (Value.int .u64 (wv (cA e c.nx ez 10).fst.dep.target)),yR (Value.int .u64 (wv (cA e c.nx ez 10).fst.bZ)),yR (Value.int .u64 (wv (cA e c.nx ez 10).fst.target)),yR (ae aP (cA e c.nx ez 10).fst.ak),yR (yW (cA e c.nx ez 10).snd)])
end Go.Proofs.YtjgbhhnghedgdaaGreatDoor
