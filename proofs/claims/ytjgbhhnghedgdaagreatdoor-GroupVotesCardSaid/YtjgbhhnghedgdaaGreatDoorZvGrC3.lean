import Derived.Test.YtjgbhhnghedgdaaGreatDoorZvTk7r
import Derived.Test.YtjgbhhnghedgdaaGreatDoorZvGrR3
set_option linter.all false
namespace Go.Proofs.YtjgbhhnghedgdaaGreatDoor
open Go.RowKit
set_option maxRecDepth 100000
set_option maxHeartbeats 4000000
theorem Gc (l:List ic) (n:List UInt8) {i:Nat} (h:i<l.length):va (l.take (i+1)) n=if Iy (l.getD i default).name n=true∧va (l.take i) n=i then i+1 else va (l.take i) n:=by
 unfold va
 rw [List.take_add_one,List.getD_eq_getElem?_getD,List.getElem?_eq_getElem h,List.takeWhile_append,List.length_take,Nat.min_eq_left ag]
 by_cases c:(List.takeWhile (fun v:ic=>Iy v.name n) (l.take i)).length=i
 ·rw [if_pos c]
  by_cases c2:Iy l[i].name n=true
  ·rw [if_pos ⟨c2,c⟩]
   simp [c2];omega
  ·rw [if_neg (fun q=>c2 q.1)]
   simp [c2];omega
 ·rw [if_neg c,if_neg (fun q=>c q.2)]
theorem EL (l:List ic) (n:List UInt8):va l n≤l.length:=(List.takeWhile_sublist _).length_le
theorem Fw {l:List ic} {n:List UInt8} (h:∀j,j<l.length->(l.getD j default).name≠n):JZ l n=false:=by
 unfold JZ
 rw [List.any_eq_false]
 intro v hv
 obtain ⟨j,hj,rfl⟩:=List.mem_iff_getElem.1 hv
 have:=h j hj
 rw [List.getD_eq_getElem?_getD,List.getElem?_eq_getElem hj] at this
 simpa using this
theorem Fx {l:List ic} {n:List UInt8} {i:Nat} (hi:i<l.length) (e:(l.getD i default).name=n):JZ l n=true:=by
 unfold JZ
 rw [List.any_eq_true]
 rw [List.getD_eq_getElem?_getD,List.getElem?_eq_getElem hi] at e
 exact ⟨_,List.getElem_mem hi,by simpa using e⟩
def ij:List AV:=[ai 0,aw 0,ai 0,cV [],ai 0,aw 0,ai 0,aw 0,aw 0,.nil,.nil,.nil,ai 0,aw 0,aw 0,aw 0,.nil]
def yi (e:fC) (n:List UInt8) (seed:UInt64) (h leaf:Int):List AV:=if iB e n h leaf=0 then bf (pc e n seed h leaf) else ij
theorem sS (e:fC) (n:List UInt8) (seed:UInt64) (h leaf:Int) (hv:e.ak.length≤1000000) (lL:bG Tryz.prog 40 [.agg (bf e)] (.cw [.own 1 (aj (iJ e)),ai (fa e)])):bG Tryz.prog 26 [.agg (bf e),cV n,aw seed,ai h,ai leaf] (.cw [.agg (yi e n seed h leaf),ai (iB e n h leaf)]):=by
 have l0:(af aL e.ak).length=e.ak.length*4:=aE (e:=4) (fun _=>rfl) ..
 by_cases cb:fa e=0
 case neg =>
  have ce:iB e n h leaf=fa e:=if_pos cb
  have cf:yi e n seed h leaf=ij:=if_neg (by rw [ce];exact cb)
  rw [cf,ce]
  refine zO Tryz.func26 89<|zP 2 [{},yH [(1,yC lL)]] [.aa [13,12,11,10,5,0,1,2,3,4] [1020,10,5]] [yI lL,yI (aV (iJ e))]<|zS<|zQ 1 [yH [(1,yV (ao true))]] [yB (ao (fa e != (0:Int))=ao true) (by simp [cb])]<|zT 24<|zP 1 [{}] [.aa [11,24,13,12,10,5,0,1,2,3,4] [10,1020,5]] [yL 17 17]<|dC (bP)
 have qc:=vR e cb
 rw [cb] at lL
 have Dg:=pr (iJ e) ag
 rw [show hash 16 (iJ e)=cJ e from rfl] at Dg
 refine zO Tryz.func26 89<|zP 2 [{},yH [(1,yC lL)]] [.aa [13,12,11,10,5,0,1,2,3,4] [1020,10,5]] [yI lL,yI (aV (iJ e))]<|zS<|zq<|zF 24<|a_<|zq<|zS<|zq<|zB 0 (zL (fun (p:Nat×Nat)=>(⟨[(24,ao ((0:Int) != (0:Int))),(13,ai 0),(12,AV.ref 1020),(10,AV.addr 10 0),(5,AV.addr 5 0),(0,AV.agg (bf e)),(1,cV n),(2,aw seed),(3,ai h),(4,ai leaf),(15,ai p.1),(14,ai p.2)],[(1020,⟨1,true,false,aj (iJ e)⟩),(10,⟨1,false,true,[ai 0,ez,ai 0,AV.val (Value.string (ByteArray.mk #[])),ai 0,ez,ai 0,ez,ez,AV.nil,AV.nil,AV.nil,ai 0,ez,ez,ez,AV.nil]⟩),(5,⟨1,false,true,List.map (aF 1020) (List.map (aF 10) (List.map (aF 5) (bf e)))⟩)]⟩:AS)) (fun p=>(p.1≤e.ak.length∧p.2=va (e.ak.take p.1) n∧ ∀j,j<p.1->(e.ak.getD j default).name≠n)) (fun p=>(e.ak.length-p.1)) ((0,0)) ?_ (zW [.aa [24,13,12,10,5,0,1,2,3,4,15,14] [1020,10,5]]) ?_)
 ·exact ⟨ag,rfl,ag⟩
 rintro ⟨i,a⟩ ⟨hi,ha,gr⟩
 simp only at hi ha gr
 refine zS<|zP 1 [yH [(3,{k:=e.ak.length})]] [.aa [31,24,13,12,10,5,0,1,2,3,4,15,14] [1020,10,5]] [yI l0] (zD 31 ((↑i:Int)<(↑e.ak.length:Int)) (fun q=>?_) (fun q=>?_))
 ·have dI:i<e.ak.length:=ag
  have gM:=i4 dI
  have dJ:=Gc e.ak n dI
  by_cases cn:(e.ak.getD i default).name=n
  ·have hd:=Fx dI cn
   have ce:iB e n h leaf=10:=by unfold iB;rw [if_neg (fun q=>q cb),if_pos hd]
   have cf:yi e n seed h leaf=ij:=if_neg ag
   rw [cf,ce]
   refine a_<|zS<|zB 1<|zS<|zP 1 [yH [(3,{k:=i}),(5,yV (cV (e.ak.getD i default).name)),(7,yV (ao ((e.ak.getD i default).name == n)))]] [.aa [41,31,24,13,12,10,5,0,1,2,3,4,15,14] [1020,10,5]] [yR (↑i:Int),yO (i*4<(af aL e.ak).length),yA aL e.ak i 0,yI (fF ((e.ak.getD i default).name) n)]<|dB 41 ((e.ak.getD i default).name == n) (by simp_all)<|zP 1 [{}] [.aa [11,41,31,24,13,12,10,5,0,1,2,3,4,15,14] [10,1020,5]] [yL 17 17]<|dC<|bc<|aK<|dN<|bc<|aK (bP)
  by_cases cl:Iy (e.ak.getD i default).name n=true
  ·by_cases ca:a=i
   ·rw [if_pos ⟨cl,ag⟩] at dJ
    have X2:((a:Int) == (i:Int))=true:=beq_iff_eq.2 ag
    clear ha ca
    refine a_<|zS<|zB 1<|zS<|zP 1 [yH [(3,{k:=i}),(5,yV (cV (e.ak.getD i default).name)),(7,yV (ao ((e.ak.getD i default).name == n)))]] [.aa [41,31,24,13,12,10,5,0,1,2,3,4,15,14] [1020,10,5]] [yR (↑i:Int),yO (i*4<(af aL e.ak).length),yA aL e.ak i 0,yI (fF ((e.ak.getD i default).name) n)]<|bk 41 ((e.ak.getD i default).name == n) (by simp_all)<|a_<|zP 1 [yH [(3,{k:=i}),(5,yV (cV (e.ak.getD i default).name))]] [.aa [55,41,31,24,13,12,10,5,0,1,2,3,4,15,14] [1020,10,5]] ([yR (↑i:Int),yO (i*4<(af aL e.ak).length),yA aL e.ak i 0]++yM 4 (yB (Op.bytesLess (ByteArray.mk (e.ak.getD i default).name.toArray).toList (ByteArray.mk n.toArray).toList=true) (by assumption)))<|dB 55 ((↑a:Int) == (↑i:Int)) (by assumption)<|zX (yH [(1,yV (ai ((↑i:Int)+1)))]) [yN ((↑i:Int)+1)]<|aJ<|al<|zX (yH [(1,yV (ai ((↑i:Int)+1)))]) [yN ((↑i:Int)+1)] (aH (i+1,i+1) ⟨ag,by show i+1=_;rw [dJ],fun j hj=>by by_cases e2:j=i;(subst e2;exact cn);exact gr j ag⟩ ag (zW [.aa [24,13,12,10,5,0,1,2,3,4,15,14] [1020,10,5]]))
   ·rw [if_neg (fun q=>ca ag)] at dJ
    refine a_<|zS<|zB 1<|zS<|zP 1 [yH [(3,{k:=i}),(5,yV (cV (e.ak.getD i default).name)),(7,yV (ao ((e.ak.getD i default).name == n)))]] [.aa [41,31,24,13,12,10,5,0,1,2,3,4,15,14] [1020,10,5]] [yR (↑i:Int),yO (i*4<(af aL e.ak).length),yA aL e.ak i 0,yI (fF ((e.ak.getD i default).name) n)]<|bk 41 ((e.ak.getD i default).name == n) (by simp_all)<|a_<|zP 1 [yH [(3,{k:=i}),(5,yV (cV (e.ak.getD i default).name))]] [.aa [55,41,31,24,13,12,10,5,0,1,2,3,4,15,14] [1020,10,5]] ([yR (↑i:Int),yO (i*4<(af aL e.ak).length),yA aL e.ak i 0]++yM 4 (yB (Op.bytesLess (ByteArray.mk (e.ak.getD i default).name.toArray).toList (ByteArray.mk n.toArray).toList=true) (by assumption)))<|bk 55 ((↑a:Int) == (↑i:Int)) bD<|zK<|aJ<|al<|zX (yH [(1,yV (ai ((↑i:Int)+1)))]) [yN ((↑i:Int)+1)] (aH (i+1,a) ⟨ag,by show a=_;rw [dJ,ha],fun j hj=>by by_cases e2:j=i;(subst e2;exact cn);exact gr j ag⟩ ag (zW [.aa [24,13,12,10,5,0,1,2,3,4,15,14] [1020,10,5]]))
  ·rw [if_neg (fun q=>cl q.1)] at dJ
   have X1:Iy (e.ak.getD i default).name n=false:=by simpa using cl
   refine a_<|zS<|zB 1<|zS<|zP 1 [yH [(3,{k:=i}),(5,yV (cV (e.ak.getD i default).name)),(7,yV (ao ((e.ak.getD i default).name == n)))]] [.aa [41,31,24,13,12,10,5,0,1,2,3,4,15,14] [1020,10,5]] [yR (↑i:Int),yO (i*4<(af aL e.ak).length),yA aL e.ak i 0,yI (fF ((e.ak.getD i default).name) n)]<|bk 41 ((e.ak.getD i default).name == n) (by simp_all)<|a_<|zP 1 [yH ([(3,{k:=i}),(5,yV (cV (e.ak.getD i default).name)),(12,{b:=false})]++yg [9,10,11])] [.aa [55,41,31,24,13,12,10,5,0,1,2,3,4,15,14] [1020,10,5]] ([yR (↑i:Int),yO (i*4<(af aL e.ak).length),yA aL e.ak i 0]++yM 4 (yB (Op.bytesLess (ByteArray.mk (e.ak.getD i default).name.toArray).toList (ByteArray.mk n.toArray).toList=false) (by assumption)))<|zF 55<|zK<|aJ<|al<|zX (yH [(1,yV (ai ((↑i:Int)+1)))]) [yN ((↑i:Int)+1)] (aH (i+1,a) ⟨ag,by show a=_;rw [dJ,ha],fun j hj=>by by_cases e2:j=i;(subst e2;exact cn);exact gr j ag⟩ ag (zW [.aa [24,13,12,10,5,0,1,2,3,4,15,14] [1020,10,5]]))
 ·have ei:i=e.ak.length:=ag
  subst ei
  rw [List.take_length] at ha
  have hd:=Fw gr
  have hq:iB e n h leaf=wS h leaf:=by unfold iB;rw [if_neg (fun q=>q cb),if_neg (by rw [hd];decide)]
  by_cases cs:wS h leaf=0
  case neg =>
   have cf:yi e n seed h leaf=ij:=if_neg (by rw [hq];exact cs)
   rw [cf,hq]
   refine zE 0<|a6<|aM<|bm<|al<|zP 1 [yH [(4,yC Dg),(5,yC (lG (seed) (h) (leaf) (cJ e)))]] [.aa [13,16,31,24,12,10,5,0,1,2,3,4,15,14] [16,301064,201064,1020,10,5]] [yI Dg,yI (lG seed h leaf (cJ e)),yB (kP (ah (mN seed h leaf (cJ e)))) (fE _),yB (kP (ah (mM seed h leaf))) (fE _),yL 3 3]<|zS<|zQ 1 [yH [(1,yV (ao true))]] [yB (ao (wS h leaf != (0:Int))=ao true) (by simp [cs])]<|zT 68<|zP 1 [{}] [.aa [11,68,13,16,31,24,12,10,5,0,1,2,3,4,15,14] [10,16,301064,201064,1020,5]] [yL 17 17]<|dC (bP)
  have cr:yi e n seed h leaf=bf (pc e n seed h leaf):=if_pos (by rw [hq];exact cs)
  have cf:pc e n seed h leaf= {e with ak:=lA e.ak ⟨n,np h leaf,mN seed h leaf (cJ e),mM seed h leaf⟩}:=if_neg (by rw [hq];exact fun q=>q cs)
  rw [cr,hq,cf,cs]
  have TH:=EL e.ak n
  have nw:cp (af aL e.ak):=dm (fun x=>dr rfl) _
  have s1:af aL (e.ak.take a)++aL ⟨n,np h leaf,mN seed h leaf (cJ e),mM seed h leaf⟩=af aL (e.ak.take a++ [⟨n,np h leaf,mN seed h leaf (cJ e),mM seed h leaf⟩]):=fR _ _
  have s2:af aL (e.ak.take a++ [⟨n,np h leaf,mN seed h leaf (cJ e),mM seed h leaf⟩])++(af aL e.ak).drop (a*4)=af aL (lA e.ak ⟨n,np h leaf,mN seed h leaf (cJ e),mM seed h leaf⟩):=by rw [mE (e:=4) (fun _=>rfl),fb];unfold lA;rw [ha]
  have s0:(af aL e.ak).take (a*4)=af aL (e.ak.take a):=mD (e:=4) (fun _=>rfl) _ _
  have Qu:cp ((af aL e.ak).take (a*4)):=fun x hx=>nw x (List.mem_of_mem_take hx)
  have O9:cp ((af aL e.ak).drop (a*4)):=fun x hx=>nw x (List.mem_of_mem_drop hx)
  refine zE 0<|a6<|aM<|bm<|al<|zP 1 [yH [(4,yC Dg),(5,yC (lG (seed) (h) (leaf) (cJ e)))]] [.aa [13,16,31,24,12,10,5,0,1,2,3,4,15,14] [16,301064,201064,1020,10,5]] [yI Dg,yI (lG seed h leaf (cJ e)),yB (kP (ah (mN seed h leaf (cJ e)))) (fE _),yB (kP (ah (mM seed h leaf))) (fE _),yL 3 3]<|zS<|zQ 1 [yH [(1,yV (ao false))]] [yB (ao (wS h leaf != (0:Int))=ao false) (by simp [cs])]<|zF 68<|a_<|bg.rz [.gR 201064,.gR 301064] bu<|zS<|Ax 9 [4] [(3,{m:=a}),(4,{av:=some (AV.arr (af aL (List.take a e.ak))),b:=false}),(9,yV (AV.arr (af aL (List.take a e.ak++ [ic.mk n (np h leaf) (mN seed h leaf (cJ e)) (mM seed h leaf)]))))] [yR (↑a:Int),yO (a*4≤(af aL e.ak).length),yI s0,yI Qu,yB ((0+(List.take (a*4) (af aL e.ak)).length)*72≤562949953421312) (by simp only [List.length_take];omega),yR (cV n),yR (AV.agg [ai (np h leaf),AV.sl 1 (ah (mN seed h leaf (cJ e))),AV.sl 1 (ah (mM seed h leaf))]),yR (AV.agg [cV n,ai (np h leaf),AV.sl 1 (ah (mN seed h leaf (cJ e))),AV.sl 1 (ah (mM seed h leaf))]),yR (AV.sl 4 [cV n,ai (np h leaf),AV.sl 1 (ah (mN seed h leaf (cJ e))),AV.sl 1 (ah (mM seed h leaf))]),yI s1,yB (((af aL (List.take a e.ak)).length+4)*72≤562949953421312) (by simp only [List.length_take,aE (f:=aL) (e:=4) (fun _=>rfl)];omega)]<|al<|zP 2 [yH [(4,{k:=a}),(5,{av:=some (AV.arr (af aL (lA e.ak (ic.mk n (np h leaf) (mN seed h leaf (cJ e)) (mM seed h leaf))))),b:=false})],{}] [.aa [11,68,13,16,31,24,12,10,5,0,1,2,3,4,15,14] [10,5,86,16,1020]] [yR (↑a:Int),yO (a*4≤(af aL e.ak).length),yI s2,yI O9,yB (((af aL (List.take a e.ak++ [ic.mk n (np h leaf) (mN seed h leaf (cJ e)) (mM seed h leaf)])).length+(List.drop (a*4) (af aL e.ak)).length)*72≤562949953421312) (by simp only [List.length_append,List.length_cons,List.length_nil,List.length_take,List.length_drop,aE (f:=aL) (e:=4) (fun _=>rfl)];omega),yL 17 17,yL 17 17]<|bg.rz [.gR 86] bu<|zR (bP)
theorem yy (g:ig) (w:UInt64) (V:List ic) (hm:g.aq.length≤1000) (hv:V.length≤1000000):bG Tryz.prog 62 [.agg (dA g),.sl 4 (af aL V),aw w] (ai (fT g w V)):=by
 have l0:(af aL V).length=V.length*4:=aE (e:=4) (fun _=>rfl) ..
 have nG:(af aT g.aq).length=g.aq.length*4:=aE (e:=4) (fun _=>rfl) ..
 refine zO Tryz.func62 79<|zq<|zS<|zq<|zB 0 (zL (fun (i:Nat)=>(⟨[(3,AV.addr 3 0),(0,AV.agg (dA g)),(1,AV.sl 4 (af aL V)),(2,aw w),(7,ai i)],[(3,⟨1,false,true,List.map (aF 3) (dA g)⟩)]⟩:AS)) (fun i=>(i≤V.length∧ff (ki g w V) i=0)) (fun i=>(V.length-i)) (0) ?_ (zW [.aa [3,0,1,2,7] [3]]) ?_)
 ·exact ⟨ag,rfl⟩
 rintro i ⟨hi,h0⟩
 refine zS<|zP 1 [yH [(2,{k:=V.length})]] [.aa [13,3,0,1,2,7] [3]] [yI l0] (zD 13 ((↑i:Int)<(↑V.length:Int)) (fun q=>?_) (fun q=>?_))
 ·have dI:i<V.length:=ag
  have gM:=i4 dI
  refine a_<|zS<|zB 1 (bg.ob (fun (u:Unit)=>(⟨[(13,ao (decide ((↑i:Int)<(↑V.length:Int)))),(3,AV.addr 3 0),(0,AV.agg (dA g)),(1,AV.sl 4 (af aL V)),(2,aw w),(7,ai ↑i)],[(3,⟨1,false,true,List.map (aF 3) (dA g)⟩)]⟩:AS)) (fun u=>(¬Ij V i)) bu ?_ ?_)
  ·by_cases c6:0<i
   ·obtain ⟨k,hk⟩:∃k,k+1=i:=⟨i-1,ag⟩
    have tJ:=i4 (l:=V) (i:=k) ag
    have ek:i-1=k:=ag
    by_cases c7:Gi (V.getD i default).name (V.getD k default).name=true
    ·have k1:=lD dI h0 (PA (g:=g) (w:=w) ⟨c6,by rw [ek];exact c7⟩) ag
     refine zP 1 [{hs:=[(5,{k:=i}),(7,yV (cV (V.getD i default).name)),(10,yV (ai ↑k)),(11,{k:=k}),(13,yV (cV (V.getD k default).name))],T:=14}] [.aa [31,13,3,0,1,2,7] [3]] (yM 3 (yT ((↑i:Int)>0))++ [yR (↑i:Int),yO (i*4<(af aL V).length)]++yM 2 (yT ((↑i:Int)>0))++ [yA aL V i 0]++yM 3 (yT ((↑i:Int)>0))++ [yB (ai (IntKind.i64.wrap ((↑i:Int)-1))=ai ↑k) (congrArg (fun n=>AV.val (.int .i64 n)) (by rw [IntKind.wrap_i64];omega)),yT ((↑i:Int)>0),yR (↑k:Int),yO (k*4<(af aL V).length)]++yM 2 (yT ((↑i:Int)>0))++ [yA aL V k 0]++yM 2 (yT ((↑i:Int)>0)))<|dB 31 (Op.bytesLess (ByteArray.mk (V.getD i default).name.toArray).toList (ByteArray.mk (V.getD k default).name.toArray).toList || (ByteArray.mk (V.getD i default).name.toArray).toList == (ByteArray.mk (V.getD k default).name.toArray).toList) (by assumption)<|zq<|dC<|bc<|aK<|dN<|bc<|aK (zV [yJ 7 (fT g w V) (by rw [k1])])
    ·have c9:Gi (V.getD i default).name (V.getD k default).name=false:=by simpa using c7
     refine zP 1 [{hs:=[(5,{k:=i}),(7,yV (cV (V.getD i default).name)),(10,yV (ai ↑k)),(11,{k:=k}),(13,yV (cV (V.getD k default).name))],T:=14}] [.aa [31,13,3,0,1,2,7] [3]] (yM 3 (yT ((↑i:Int)>0))++ [yR (↑i:Int),yO (i*4<(af aL V).length)]++yM 2 (yT ((↑i:Int)>0))++ [yA aL V i 0]++yM 3 (yT ((↑i:Int)>0))++ [yB (ai (IntKind.i64.wrap ((↑i:Int)-1))=ai ↑k) (congrArg (fun n=>AV.val (.int .i64 n)) (by rw [IntKind.wrap_i64];omega)),yT ((↑i:Int)>0),yR (↑k:Int),yO (k*4<(af aL V).length)]++yM 2 (yT ((↑i:Int)>0))++ [yA aL V k 0]++yM 2 (yT ((↑i:Int)>0)))<|bk 31 (Op.bytesLess (ByteArray.mk (V.getD i default).name.toArray).toList (ByteArray.mk (V.getD k default).name.toArray).toList || (ByteArray.mk (V.getD i default).name.toArray).toList == (ByteArray.mk (V.getD k default).name.toArray).toList) (by assumption)<|a_ (⟨(),(fun q=>by have:=q.2;rw [ek] at this;exact c7 this),(zW [.aa [13,3,0,1,2,7] [3]])⟩)
   ·skip
    refine zP 1 [{hs:=[(3,{g:=false}),(4,{g:=false}),(5,{g:=false}),(6,{g:=false}),(7,{g:=false}),(8,{g:=false}),(9,{g:=false}),(10,{g:=false}),(11,{g:=false}),(12,{g:=false}),(13,{g:=false}),(14,{g:=false}),(15,{b:=false})],T:=14}] [.aa [31,13,3,0,1,2,7] [3]] (yM 13 (yF ((↑i:Int)>0)))<|zF 31<|a_ (⟨(),(fun q=>c6 q.1),(zW [.aa [13,3,0,1,2,7] [3]])⟩)
  intro u hu
  have jL:=mU g.aq (V.getD i default).name ag
  rcases gU g.aq (V.getD i default).name with hk|⟨k,hk,iY,QD⟩
  ·have k1:=lD dI h0 (Ml (g:=g) (w:=w) hu ag) ag
   rw [hk] at jL
   refine zP 1 [{hs:=[(4,{k:=i}),(6,yV (cV (V.getD i default).name)),(7,yC jL)],T:=7}] [.aa [8,13,3,0,1,2,7] [3]] [yR (↑i:Int),yO (i*4<(af aL V).length),yA aL V i 0,yI jL]<|zS<|zq<|iw 41 ((-1:Int)<0)<|zq<|dC<|bc<|aK<|dN<|bc<|aK (zV [yJ 11 (fT g w V) (by rw [k1])])
  have S5:=oO iY
  rw [hk] at jL
  have Dd:=wV (g.aq.getD k default).h (g.aq.getD k default).r w (V.getD i default).leaf (V.getD i default).cM (V.getD i default).path
  by_cases cv:lR (g.aq.getD k default).h (g.aq.getD k default).r w (V.getD i default).leaf (V.getD i default).cM (V.getD i default).path=0
  case neg =>
   have k1:=lD dI h0 (Hx hu hk rfl cv) cv
   refine zP 1 [{hs:=[(4,{k:=i}),(6,yV (cV (V.getD i default).name)),(7,yC jL)],T:=7}] [.aa [8,13,3,0,1,2,7] [3]] [yR (↑i:Int),yO (i*4<(af aL V).length),yA aL V i 0,yI jL]<|zS<|zQ 1 [yH [(1,yV (ao false))]] [yR (ao false)]<|zF 41<|a_<|zS<|zP 2 [{hs:=[(3,{k:=k}),(5,yV (AV.agg [ai ((g.aq.getD k default).h),aw ((g.aq.getD k default).r)])),(9,{k:=i}),(11,yV (AV.agg [ai ((V.getD i default).leaf),AV.sl 1 (ah (V.getD i default).cM),AV.sl 1 (ah (V.getD i default).path)])),(12,yC Dd)],T:=12},{}] [.aa [56,9,41,8,13,3,0,1,2,7] [3]] [yR (↑k:Int),yO (k*4<(af aT g.aq).length),yu aT g.aq k 1 2,yR 2,yR (↑i:Int),yO (i*4<(af aL V).length),yu aL V i 1 3,yR 3,yI Dd]<|dB 56 (lR (g.aq.getD k default).h (g.aq.getD k default).r w (V.getD i default).leaf (V.getD i default).cM (V.getD i default).path != (0:Int)) (by simp_all)<|zP 1 [{}] [.aa [6,56,9,41,8,13,3,0,1,2,7] [3]] []<|dC<|bc<|aK<|dN<|bc<|aK (zV [yJ (lR (g.aq.getD k default).h (g.aq.getD k default).r w (V.getD i default).leaf (V.getD i default).cM (V.getD i default).path) (fT g w V) (by rw [k1])])
  have LA:=uE cv
  have hr:=yh hu hk cv
  rw [cv] at Dd
  obtain ⟨z,hz,NF⟩:∃z:Nat,(V.getD i default).leaf=z∧z<16:=⟨(V.getD i default).leaf.toNat,ag,ag⟩
  have P7:IntKind.u64.wrap (V.getD i default).leaf=(z:Int):=by rw [hz,IntKind.wrap_u64];omega
  have Ho:=OQ (g.aq.getD k default).used z ag
  have Vy:gO (V.getD i default).leaf=(1:UInt64)<<<UInt64.ofNat z:=by unfold gO;rw [hz];rfl
  rw [Vy] at hr
  by_cases cu:(g.aq.getD k default).used&&&((1:UInt64)<<<UInt64.ofNat z)=0
  ·rw [if_neg (fun q=>q cu)] at hr
   have cs:((((g.aq.getD k default).used>>>UInt64.ofNat z)&&&1) == 1)=false:=beq_eq_false_iff_ne.2 fun q=>Ho.1 q cu
   refine zP 1 [{hs:=[(4,{k:=i}),(6,yV (cV (V.getD i default).name)),(7,yC jL)],T:=7}] [.aa [8,13,3,0,1,2,7] [3]] [yR (↑i:Int),yO (i*4<(af aL V).length),yA aL V i 0,yI jL]<|zS<|zq<|dF 41 ((↑k:Int)<0)<|a_<|zS<|zP 2 [{hs:=[(3,{k:=k}),(5,yV (AV.agg [ai ((g.aq.getD k default).h),aw ((g.aq.getD k default).r)])),(9,{k:=i}),(11,yV (AV.agg [ai ((V.getD i default).leaf),AV.sl 1 (ah (V.getD i default).cM),AV.sl 1 (ah (V.getD i default).path)])),(12,yC Dd)],T:=12},{}] [.aa [56,9,41,8,13,3,0,1,2,7] [3]] [yR (↑k:Int),yO (k*4<(af aT g.aq).length),yu aT g.aq k 1 2,yR 2,yR (↑i:Int),yO (i*4<(af aL V).length),yu aL V i 1 3,yR 3,yI Dd]<|zF 56<|a_<|zP 1 [{hs:=[(3,{k:=k}),(5,yV (aw ((g.aq.getD k default).used))),(8,{k:=i}),(11,yV (ai ((V.getD i default).leaf))),(12,yV (AV.val (Value.int .u64 (↑z:Int)))),(13,yV (aw ((g.aq.getD k default).used>>>UInt64.ofNat z))),(14,yV (aw ((g.aq.getD k default).used>>>UInt64.ofNat z&&&(1:UInt64)))),(15,yV (ao ((g.aq.getD k default).used>>>UInt64.ofNat z&&&(1:UInt64) == 1)))],T:=13}] [.aa [73,56,9,41,8,13,3,0,1,2,7] [3]] [yR (↑k:Int),yO (k*4<(af aT g.aq).length),yA aT g.aq k 3,yR (↑i:Int),yO (i*4<(af aL V).length),yA aL V i 1,yI (yd P7),yI (fB ((g.aq.getD k default).used) ((↑z:Int)) ag ag),yO ((0:Int)≤(↑z:Int)),yI (jh ((g.aq.getD k default).used>>>UInt64.ofNat z) 1),yI (fe ((g.aq.getD k default).used>>>UInt64.ofNat z&&&(1:UInt64)) 1)]<|bk 73 ((g.aq.getD k default).used>>>UInt64.ofNat z&&&(1:UInt64) == 1) (by assumption)<|zK<|aJ<|al<|zX (yH [(1,yV (ai ((↑i:Int)+1)))]) [yN ((↑i:Int)+1)] (aH (i+1) ⟨ag,by show (if _ then _ else _)=_;rw [if_neg ag,hr]⟩ ag (zW [.aa [3,0,1,2,7] [3]]))
  ·rw [if_pos cu] at hr
   have k1:=lD dI h0 hr ag
   have cs:((((g.aq.getD k default).used>>>UInt64.ofNat z)&&&1) == 1)=true:=beq_iff_eq.2 (Ho.2 cu)
   refine zP 1 [{hs:=[(4,{k:=i}),(6,yV (cV (V.getD i default).name)),(7,yC jL)],T:=7}] [.aa [8,13,3,0,1,2,7] [3]] [yR (↑i:Int),yO (i*4<(af aL V).length),yA aL V i 0,yI jL]<|zS<|zq<|dF 41 ((↑k:Int)<0)<|a_<|zS<|zP 2 [{hs:=[(3,{k:=k}),(5,yV (AV.agg [ai ((g.aq.getD k default).h),aw ((g.aq.getD k default).r)])),(9,{k:=i}),(11,yV (AV.agg [ai ((V.getD i default).leaf),AV.sl 1 (ah (V.getD i default).cM),AV.sl 1 (ah (V.getD i default).path)])),(12,yC Dd)],T:=12},{}] [.aa [56,9,41,8,13,3,0,1,2,7] [3]] [yR (↑k:Int),yO (k*4<(af aT g.aq).length),yu aT g.aq k 1 2,yR 2,yR (↑i:Int),yO (i*4<(af aL V).length),yu aL V i 1 3,yR 3,yI Dd]<|zF 56<|a_<|zP 1 [{hs:=[(3,{k:=k}),(5,yV (aw ((g.aq.getD k default).used))),(8,{k:=i}),(11,yV (ai ((V.getD i default).leaf))),(12,yV (AV.val (Value.int .u64 (↑z:Int)))),(13,yV (aw ((g.aq.getD k default).used>>>UInt64.ofNat z))),(14,yV (aw ((g.aq.getD k default).used>>>UInt64.ofNat z&&&(1:UInt64)))),(15,yV (ao ((g.aq.getD k default).used>>>UInt64.ofNat z&&&(1:UInt64) == 1)))],T:=13}] [.aa [73,56,9,41,8,13,3,0,1,2,7] [3]] [yR (↑k:Int),yO (k*4<(af aT g.aq).length),yA aT g.aq k 3,yR (↑i:Int),yO (i*4<(af aL V).length),yA aL V i 1,yI (yd P7),yI (fB ((g.aq.getD k default).used) ((↑z:Int)) ag ag),yO ((0:Int)≤(↑z:Int)),yI (jh ((g.aq.getD k default).used>>>UInt64.ofNat z) 1),yI (fe ((g.aq.getD k default).used>>>UInt64.ofNat z&&&(1:UInt64)) 1)]<|dB 73 ((g.aq.getD k default).used>>>UInt64.ofNat z&&&(1:UInt64) == 1) (by assumption)<|zq<|zR<|bc<|aK<|dN<|bc<|aK (zV [yJ 37 (fT g w V) (by rw [k1])])
 ·have e:i=V.length:=ag
  subst e
  refine zE 0<|a6<|aM<|bm<|al<|zS<|zP 1 [yH [(1,{k:=V.length})]] [.aa [78,13,3,0,1,2,7] [3]] [yI l0] (zD 78 ((↑V.length:Int)<g.bA) (fun q2=>?_) (fun q2=>?_))
  ·skip
   refine zq<|dC (zV [yJ 41 (fT g w V) (by unfold fT;rw [if_neg ag,if_pos ag])])
  ·skip
   refine a_<|zq<|zR (zV [yJ 0 (fT g w V) (by unfold fT;rw [if_neg ag,if_neg ag])])
end Go.Proofs.YtjgbhhnghedgdaaGreatDoor
