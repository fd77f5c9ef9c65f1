import Derived.Test.YtjgbhhnghedgdaaGreatDoorZsGrC2
set_option linter.all false
namespace Go.Proofs.YtjgbhhnghedgdaaGreatDoor
open Go.RowKit
set_option maxRecDepth 100000
set_option maxHeartbeats 4000000
theorem EN (l:List fW) (n:List UInt8) {i:Nat} (h:i<l.length):zu (l.take (i+1)) n=if NQ (l.getD i default).name n=true∧zu (l.take i) n=i then i+1 else zu (l.take i) n:=by
 unfold zu
 rw [List.take_add_one,List.getD_eq_getElem?_getD,List.getElem?_eq_getElem h,List.takeWhile_append,List.length_take,Nat.min_eq_left ah]
 by_cases c:(List.takeWhile (fun v:fW=>NQ v.name n) (l.take i)).length=i
 ·rw [if_pos c]
  by_cases c2:NQ l[i].name n=true
  ·rw [if_pos ⟨c2,c⟩]
   simp [c2];omega
  ·rw [if_neg (fun q=>c2 q.1)]
   simp [c2];omega
 ·rw [if_neg c,if_neg (fun q=>c q.2)]
theorem Dv (l:List fW) (n:List UInt8):zu l n≤l.length:=(List.takeWhile_sublist _).length_le
theorem KY {l:List fW} {n:List UInt8} (h:∀j,j<l.length->(l.getD j default).name≠n):IG l n=false:=by
 unfold IG
 rw [List.any_eq_false]
 intro v hv
 obtain ⟨j,hj,rfl⟩:=List.mem_iff_getElem.1 hv
 have:=h j hj
 rw [List.getD_eq_getElem?_getD,List.getElem?_eq_getElem hj] at this
 simpa using this
theorem KZ {l:List fW} {n:List UInt8} {i:Nat} (hi:i<l.length) (e:(l.getD i default).name=n):IG l n=true:=by
 unfold IG
 rw [List.any_eq_true]
 rw [List.getD_eq_getElem?_getD,List.getElem?_eq_getElem hi] at e
 exact ⟨_,List.getElem_mem hi,by simpa using e⟩
def yl:List AV:=[ai 0,aw 0,ai 0,dw [],ai 0,aw 0,ai 0,aw 0,aw 0,.nil,.nil,.nil,ai 0,aw 0,aw 0,aw 0,.nil]
def Bd (e:eK) (n:List UInt8) (seed:UInt64) (h leaf:Int):List AV:=if lz e n h leaf=0 then bk (tc e n seed h leaf) else yl
theorem ze (e:eK) (n:List UInt8) (seed:UInt64) (h leaf:Int) (hv:e.ar.length≤1000000) (qi:bK Tryz.prog 40 [.agg (bk e)] (.br [.own 1 (ag (j0 e)),ai (eY e)])):bK Tryz.prog 26 [.agg (bk e),dw n,aw seed,ai h,ai leaf] (.br [.agg (Bd e n seed h leaf),ai (lz e n h leaf)]):=by
 have E1:(af bp e.ar).length=e.ar.length*4:=aG (e:=4) (fun _=>rfl) ..
 by_cases cb:eY e=0
 case neg =>
  have ce:lz e n h leaf=eY e:=if_pos cb
  have cf:Bd e n seed h leaf=yl:=if_neg (by rw [ce];exact cb)
  rw [cf,ce]
  refine zO Tryz.func26 89<|zP 2 [{},yH [(1,yV (AV.br [AV.own 1 (ag (j0 e)),ai (eY e)]))]] [.aa [13,12,11,10,5,0,1,2,3,4] [1020,10,5]] [yI qi,yI (aV (j0 e))]<|zS<|zQ 1 [yH [(1,yV (ao true))]] [yB (ao (eY e != (0:Int))=ao true) (by simp [cb])]<|zT 24<|zP 1 [{}] [.aa [11,24,13,12,10,5,0,1,2,3,4] [10,1020,5]] [yL 17 17]<|dW (cE)
 have pK:=Ap e cb
 rw [cb] at qi
 have Ro:=vg (j0 e) ah
 rw [show hash 16 (j0 e)=dJ e from rfl] at Ro
 refine zO Tryz.func26 89<|zP 2 [{},yH [(1,yV (AV.br [AV.own 1 (ag (j0 e)),ai 0]))]] [.aa [13,12,11,10,5,0,1,2,3,4] [1020,10,5]] [yI qi,yI (aV (j0 e))]<|zS<|zq<|zF 24<|a8<|zq<|zS<|zq<|zB 0 (zL (fun (p:Nat×Nat)=>(⟨[(24,ao ((0:Int) != (0:Int))),(13,ai 0),(12,AV.ref 1020),(10,AV.addr 10 0),(5,AV.addr 5 0),(0,AV.agg (bk e)),(1,dw n),(2,aw seed),(3,ai h),(4,ai leaf),(15,ai p.1),(14,ai p.2)],[(1020,⟨1,true,false,ag (j0 e)⟩),(10,⟨1,false,true,[ai 0,eh,ai 0,AV.val (Value.string (ByteArray.mk #[])),ai 0,eh,ai 0,eh,eh,AV.nil,AV.nil,AV.nil,ai 0,eh,eh,eh,AV.nil]⟩),(5,⟨1,false,true,List.map (aQ 1020) (List.map (aQ 10) (List.map (aQ 5) (bk e)))⟩)]⟩:AS)) (fun p=>(p.1≤e.ar.length∧p.2=zu (e.ar.take p.1) n∧ ∀j,j<p.1->(e.ar.getD j default).name≠n)) (fun p=>(e.ar.length-p.1)) ((0,0)) ?_ (zW [.aa [24,13,12,10,5,0,1,2,3,4,15,14] [1020,10,5]]) ?_)
 ·exact ⟨ah,rfl,ah⟩
 rintro ⟨i,a⟩ ⟨hi,ha,gu⟩
 simp only at hi ha gu
 refine zS<|zP 1 [yH [(3,{k:=e.ar.length})]] [.aa [31,24,13,12,10,5,0,1,2,3,4,15,14] [1020,10,5]] [yI E1] (zD 31 ((↑i:Int)<(↑e.ar.length:Int)) (fun q=>?_) (fun q=>?_))
 ·have dM:i<e.ar.length:=ah
  have ix:=o9 dM
  have dI:=EN e.ar n dM
  by_cases cn:(e.ar.getD i default).name=n
  ·have hd:=KZ dM cn
   have ce:lz e n h leaf=10:=by unfold lz;rw [if_neg (fun q=>q cb),if_pos hd]
   have cf:Bd e n seed h leaf=yl:=if_neg ah
   rw [cf,ce]
   refine a8<|zS<|zB 1<|zS<|zP 1 [yH [(3,{k:=i}),(5,yV (dw (e.ar.getD i default).name)),(7,yV (ao ((e.ar.getD i default).name == n)))]] [.aa [41,31,24,13,12,10,5,0,1,2,3,4,15,14] [1020,10,5]] [yR (↑i:Int),yO (i*4<(af bp e.ar).length),yA bp e.ar i 0,yI (fg ((e.ar.getD i default).name) n)]<|dQ 41 ((e.ar.getD i default).name == n) (by simp_all)<|zP 1 [{}] [.aa [11,41,31,24,13,12,10,5,0,1,2,3,4,15,14] [10,1020,5]] [yL 17 17]<|dW<|bl<|aW<|fD<|bl<|aW (cE)
  by_cases cl:NQ (e.ar.getD i default).name n=true
  ·by_cases ca:a=i
   ·rw [if_pos ⟨cl,ah⟩] at dI
    have Wh:((a:Int) == (i:Int))=true:=beq_iff_eq.2 ah
    clear ha ca
    refine a8<|zS<|zB 1<|zS<|zP 1 [yH [(3,{k:=i}),(5,yV (dw (e.ar.getD i default).name)),(7,yV (ao ((e.ar.getD i default).name == n)))]] [.aa [41,31,24,13,12,10,5,0,1,2,3,4,15,14] [1020,10,5]] [yR (↑i:Int),yO (i*4<(af bp e.ar).length),yA bp e.ar i 0,yI (fg ((e.ar.getD i default).name) n)]<|bo 41 ((e.ar.getD i default).name == n) (by simp_all)<|a8<|zP 1 [yH [(3,{k:=i}),(5,yV (dw (e.ar.getD i default).name))]] [.aa [55,41,31,24,13,12,10,5,0,1,2,3,4,15,14] [1020,10,5]] ([yR (↑i:Int),yO (i*4<(af bp e.ar).length),yA bp e.ar i 0]++yM 4 (yB (Op.bytesLess (ByteArray.mk (e.ar.getD i default).name.toArray).toList (ByteArray.mk n.toArray).toList=true) (by assumption)))<|dQ 55 ((↑a:Int) == (↑i:Int)) (by assumption)<|zX (yH [(1,yV (ai ((↑i:Int)+1)))]) [yN ((↑i:Int)+1)]<|aM<|ak<|zX (yH [(1,yV (ai ((↑i:Int)+1)))]) [yN ((↑i:Int)+1)] (aI (i+1,i+1) ⟨ah,by show i+1=_;rw [dI],fun j hj=>by by_cases e2:j=i;(subst e2;exact cn);exact gu j ah⟩ ah (zW [.aa [24,13,12,10,5,0,1,2,3,4,15,14] [1020,10,5]]))
   ·rw [if_neg (fun q=>ca ah)] at dI
    refine a8<|zS<|zB 1<|zS<|zP 1 [yH [(3,{k:=i}),(5,yV (dw (e.ar.getD i default).name)),(7,yV (ao ((e.ar.getD i default).name == n)))]] [.aa [41,31,24,13,12,10,5,0,1,2,3,4,15,14] [1020,10,5]] [yR (↑i:Int),yO (i*4<(af bp e.ar).length),yA bp e.ar i 0,yI (fg ((e.ar.getD i default).name) n)]<|bo 41 ((e.ar.getD i default).name == n) (by simp_all)<|a8<|zP 1 [yH [(3,{k:=i}),(5,yV (dw (e.ar.getD i default).name))]] [.aa [55,41,31,24,13,12,10,5,0,1,2,3,4,15,14] [1020,10,5]] ([yR (↑i:Int),yO (i*4<(af bp e.ar).length),yA bp e.ar i 0]++yM 4 (yB (Op.bytesLess (ByteArray.mk (e.ar.getD i default).name.toArray).toList (ByteArray.mk n.toArray).toList=true) (by assumption)))<|bo 55 ((↑a:Int) == (↑i:Int)) bR<|zK<|aM<|ak<|zX (yH [(1,yV (ai ((↑i:Int)+1)))]) [yN ((↑i:Int)+1)] (aI (i+1,a) ⟨ah,by show a=_;rw [dI,ha],fun j hj=>by by_cases e2:j=i;(subst e2;exact cn);exact gu j ah⟩ ah (zW [.aa [24,13,12,10,5,0,1,2,3,4,15,14] [1020,10,5]]))
  ·rw [if_neg (fun q=>cl q.1)] at dI
   have Wg:NQ (e.ar.getD i default).name n=false:=by simpa using cl
   refine a8<|zS<|zB 1<|zS<|zP 1 [yH [(3,{k:=i}),(5,yV (dw (e.ar.getD i default).name)),(7,yV (ao ((e.ar.getD i default).name == n)))]] [.aa [41,31,24,13,12,10,5,0,1,2,3,4,15,14] [1020,10,5]] [yR (↑i:Int),yO (i*4<(af bp e.ar).length),yA bp e.ar i 0,yI (fg ((e.ar.getD i default).name) n)]<|bo 41 ((e.ar.getD i default).name == n) (by simp_all)<|a8<|zP 1 [yH ([(3,{k:=i}),(5,yV (dw (e.ar.getD i default).name)),(12,{b:=false})]++yg [9,10,11])] [.aa [55,41,31,24,13,12,10,5,0,1,2,3,4,15,14] [1020,10,5]] ([yR (↑i:Int),yO (i*4<(af bp e.ar).length),yA bp e.ar i 0]++yM 4 (yB (Op.bytesLess (ByteArray.mk (e.ar.getD i default).name.toArray).toList (ByteArray.mk n.toArray).toList=false) (by assumption)))<|zF 55<|zK<|aM<|ak<|zX (yH [(1,yV (ai ((↑i:Int)+1)))]) [yN ((↑i:Int)+1)] (aI (i+1,a) ⟨ah,by show a=_;rw [dI,ha],fun j hj=>by by_cases e2:j=i;(subst e2;exact cn);exact gu j ah⟩ ah (zW [.aa [24,13,12,10,5,0,1,2,3,4,15,14] [1020,10,5]]))
 ·have ei:i=e.ar.length:=ah
  subst ei
  rw [List.take_length] at ha
  have hd:=KY gu
  have hq:lz e n h leaf=vN h leaf:=by unfold lz;rw [if_neg (fun q=>q cb),if_neg (by rw [hd];decide)]
  by_cases cs:vN h leaf=0
  case neg =>
   have cf:Bd e n seed h leaf=yl:=if_neg (by rw [hq];exact cs)
   rw [cf,hq]
   refine zE 0<|aY<|aN<|bm<|ak<|zP 1 [yH [(4,yV (aw (dJ e))),(5,yV (AV.br [AV.agg [ai (oA h leaf),AV.own 1 (aj (nZ seed h leaf (dJ e))),AV.own 1 (aj (nY seed h leaf))],ai (vN h leaf)]))]] [.aa [13,16,31,24,12,10,5,0,1,2,3,4,15,14] [16,301064,201064,1020,10,5]] [yI Ro,yI (rF seed h leaf (dJ e)),yB (lC (aj (nZ seed h leaf (dJ e)))) (gg _),yB (lC (aj (nY seed h leaf))) (gg _),yL 3 3]<|zS<|zQ 1 [yH [(1,yV (ao true))]] [yB (ao (vN h leaf != (0:Int))=ao true) (by simp [cs])]<|zT 68<|zP 1 [{}] [.aa [11,68,13,16,31,24,12,10,5,0,1,2,3,4,15,14] [10,16,301064,201064,1020,5]] [yL 17 17]<|dW (cE)
  have cr:Bd e n seed h leaf=bk (tc e n seed h leaf):=if_pos (by rw [hq];exact cs)
  have cf:tc e n seed h leaf= {e with ar:=z1 e.ar ⟨n,oA h leaf,nZ seed h leaf (dJ e),nY seed h leaf⟩}:=if_neg (by rw [hq];exact fun q=>q cs)
  rw [cr,hq,cf,cs]
  have R4:=Dv e.ar n
  have pJ:dh (af bp e.ar):=hY (fun x=>ij rfl) _
  have s1:af bp (e.ar.take a)++bp ⟨n,oA h leaf,nZ seed h leaf (dJ e),nY seed h leaf⟩=af bp (e.ar.take a++ [⟨n,oA h leaf,nZ seed h leaf (dJ e),nY seed h leaf⟩]):=ja _ _
  have s2:af bp (e.ar.take a++ [⟨n,oA h leaf,nZ seed h leaf (dJ e),nY seed h leaf⟩])++(af bp e.ar).drop (a*4)=af bp (z1 e.ar ⟨n,oA h leaf,nZ seed h leaf (dJ e),nY seed h leaf⟩):=by rw [q_ (e:=4) (fun _=>rfl),fO];unfold z1;rw [ha]
  have s0:(af bp e.ar).take (a*4)=af bp (e.ar.take a):=q9 (e:=4) (fun _=>rfl) _ _
  have Ru:dh ((af bp e.ar).take (a*4)):=fun x hx=>pJ x (List.mem_of_mem_take hx)
  have Qt:dh ((af bp e.ar).drop (a*4)):=fun x hx=>pJ x (List.mem_of_mem_drop hx)
  refine zE 0<|aY<|aN<|bm<|ak<|zP 1 [yH [(4,yV (aw (dJ e))),(5,yV (AV.br [AV.agg [ai (oA h leaf),AV.own 1 (aj (nZ seed h leaf (dJ e))),AV.own 1 (aj (nY seed h leaf))],ai (vN h leaf)]))]] [.aa [13,16,31,24,12,10,5,0,1,2,3,4,15,14] [16,301064,201064,1020,10,5]] [yI Ro,yI (rF seed h leaf (dJ e)),yB (lC (aj (nZ seed h leaf (dJ e)))) (gg _),yB (lC (aj (nY seed h leaf))) (gg _),yL 3 3]<|zS<|zQ 1 [yH [(1,yV (ao false))]] [yB (ao (vN h leaf != (0:Int))=ao false) (by simp [cs])]<|zF 68<|a8<|a7.su [.iR 201064,.iR 301064] bH<|zS<|FM 9 [4] [(3,{m:=a}),(4,{av:=some (AV.arr (af bp (List.take a e.ar))),b:=false}),(9,yV (AV.arr (af bp (List.take a e.ar++ [fW.mk n (oA h leaf) (nZ seed h leaf (dJ e)) (nY seed h leaf)]))))] [yR (↑a:Int),yO (a*4≤(af bp e.ar).length),yI s0,yI Ru,yB ((0+(List.take (a*4) (af bp e.ar)).length)*72≤562949953421312) (by simp only [List.length_take];omega),yR (dw n),yR (AV.agg [ai (oA h leaf),AV.sl 1 (aj (nZ seed h leaf (dJ e))),AV.sl 1 (aj (nY seed h leaf))]),yR (AV.agg [dw n,ai (oA h leaf),AV.sl 1 (aj (nZ seed h leaf (dJ e))),AV.sl 1 (aj (nY seed h leaf))]),yR (AV.sl 4 [dw n,ai (oA h leaf),AV.sl 1 (aj (nZ seed h leaf (dJ e))),AV.sl 1 (aj (nY seed h leaf))]),yI s1,yB (((af bp (List.take a e.ar)).length+4)*72≤562949953421312) (by simp only [List.length_take,aG (f:=bp) (e:=4) (fun _=>rfl)];omega)]<|ak<|zP 2 [yH [(4,{k:=a}),(5,{av:=some (AV.arr (af bp (z1 e.ar (fW.mk n (oA h leaf) (nZ seed h leaf (dJ e)) (nY seed h leaf))))),b:=false})],{}] [.aa [11,68,13,16,31,24,12,10,5,0,1,2,3,4,15,14] [10,5,86,16,1020]] [yR (↑a:Int),yO (a*4≤(af bp e.ar).length),yI s2,yI Qt,yB (((af bp (List.take a e.ar++ [fW.mk n (oA h leaf) (nZ seed h leaf (dJ e)) (nY seed h leaf)])).length+(List.drop (a*4) (af bp e.ar)).length)*72≤562949953421312) (by simp only [List.length_append,List.length_cons,List.length_nil,List.length_take,List.length_drop,aG (f:=bp) (e:=4) (fun _=>rfl)];omega),yL 17 17,yL 17 17]<|a7.su [.iR 86] bH<|zR (cE)
def gC (l:List Int) (k:Nat) (n:Int):Nat:=if k<l.length then ft (l.getD k 0) n else 0
def dv (l:List Int) (k:Nat):Nat:=if k<l.length then k+1 else k
theorem Ka (l:List Int):bK Tryz.prog 13 [.sl 1 (ax l)] (.box [.sl 1 (ax l),ai 0]):=by
 refine zO Tryz.func13 6<|zP 2 [{},{}] [.aa [2,0] [5]] []<|zR (cE)
theorem cY (l:List Int) (k:Nat) (n:Int) (hk:k≤l.length) (hl:l.length≤9223372036854775807) (h1:1≤n) (h2:n≤9223372036854775807):gb Tryz.prog 24 [.addr 1000000000000 0,ai n] [(1000000000000,⟨1,false,true,[.sl 1 (ax l),ai k]⟩)] (ai (gC l k n)) [(1000000000000,⟨1,false,true,[.sl 1 (ax l),ai (dv l k)]⟩)]:=by
 by_cases h:k<l.length
 ·have e1:gC l k n=ft (l.getD k 0) n:=if_pos h
  have e2:dv l k=k+1:=if_pos h
  have ew:IntKind.i64.wrap ((k:Int)+1)=((k+1:Nat):Int):=by rw [IntKind.wrap_i64];omega
  have ev:IntKind.i64.wrap (((k+1:Nat):Int)-1)=(k:Int):=by rw [IntKind.wrap_i64];omega
  rw [e1,e2]
  refine mN Tryz.func24 35<|zq<|zS<|zP 1 [{hs:=[(8,{k:=l.length})],T:=9}] [.aa [14,4,0,1] [1000000000000]] [yI (kb l)]<|dK 14 ((↑k:Int)≥(↑l.length:Int))<|a8<|zP 2 [yH [(4,yV (ai (↑(k+1):Int)))],{hs:=[(8,yV (ai ↑k)),(9,{k:=k}),(10,yV (ai (l.getD k (0:Int)))),(12,yV (ai (↑(ft (l.getD k (0:Int)) n):Int)))],T:=12}] [.aa [4,14,0,1] [1000000000000]] [yB (ai (IntKind.i64.wrap ((↑k:Int)+1))=ai (↑(k+1):Int)) (eZ ah ah),yL 2 2,yI (yc ev),yR (↑k:Int),yB (k<(ax l).length) (by simp only [kb];omega),yB ((ax l)[k]?=some (ai (l.getD k (0:Int)))) (nf ah),yI (sE (l.getD k (0:Int)) n h1 h2)]<|zR (zG [] [yR (Value.int .i64 (↑(ft (l.getD k (0:Int)) n):Int)),yR [AV.sl 1 (ax l),ai (↑(k+1):Int)]])
 ·have e1:gC l k n=0:=if_neg h
  have e2:dv l k=k:=if_neg h
  rw [e1,e2]
  refine mN Tryz.func24 35<|zq<|zS<|zP 1 [{hs:=[(8,{k:=l.length})],T:=9}] [.aa [14,4,0,1] [1000000000000]] [yI (kb l)]<|jO 14 ((↑k:Int)≥(↑l.length:Int))<|zq<|dW (zG [] [yR (Value.int .i64 0),yR [AV.sl 1 (ax l),ai ↑k]])
theorem dj {l:List Int} {k:Nat} (h:k≤l.length):dv l k≤l.length:=by unfold dv;split<;>omega
theorem ll (l:List Int) (k:Nat) {n:Int} (h:1≤n):(gC l k n:Int)<n:=by
 unfold gC
 split
 ·unfold ft
  have:=Int.emod_lt_of_pos (l.getD k 0%18446744073709551616) (ah:0<n)
  have:=Int.emod_nonneg (l.getD k 0%18446744073709551616) (ah:n≠0)
  omega
 ·omega
structure A7 where
 gf:fL
 log:List eK
 nx:Nat->Int
def p9 (c:A7):List AV:=[ai c.gf.aC,aw c.gf.head,ai c.gf.bB,.sl 4 (af aP c.gf.al),.sl 7 (af bg c.gf.aF),.sl 17 (af bk c.log),ai (c.nx 0),ai (c.nx 1),ai (c.nx 2),ai (c.nx 3),ai (c.nx 4),ai (c.nx 5),ai (c.nx 6),ai (c.nx 7),ai (c.nx 8),ai (c.nx 9)]
def u6 (f:Nat->Int):List AV:=[ai (f 0),ai (f 1),ai (f 2),ai (f 3),ai (f 4),ai (f 5),ai (f 6),ai (f 7),ai (f 8),ai (f 9)]
def Nv:A7:=⟨cO (dq 0),[],fun _=>0⟩
theorem FH:bK Tryz.prog 15 [] (.agg (p9 Nv)):=by
 have hm:=fy 0 ah
 have hn:=Bw (dq 0) (Nat.le_of_ble_eq_true rfl)
 unfold Nv
 generalize cO (dq 0)=G at *
 refine zO Tryz.func15 10<|zP 3 [{},yH [(0,yV (AV.agg (aP (dq 0)))),(1,{av:=some (AV.br [AV.agg [ai G.aC,aw G.head,ai G.bB,AV.sl 4 (af aP G.al),AV.own 7 (af bg G.aF)],ai (gO (dq 0))]),b:=false})],{}] [.aa [1,0] [0,1,501005]] [yI hm,yI hn,yL 5 5,yL 16 16]<|a7.su [.iR 501005] bH<|a7.ow (bN.Mu 0 [(5,17)] bH)<|zR (zV ([yR (Value.int .i64 G.aC),yR (Value.int .u64 (wv G.head)),yR (Value.int .i64 G.bB),yR (af aP G.al),yR (af bg G.aF),yB ([]=af bk []) rfl]++yM 10 (yR (Value.int .i64 0))))
theorem EX (l:List Int) (k:Nat) (hk:k≤l.length) (hl:l.length≤9223372036854775807):gb Tryz.prog 28 [.addr 1000000000000 0] [(1000000000000,⟨1,false,true,[.sl 1 (ax l),ai k]⟩)] (ao (decide (k<l.length))) [(1000000000000,⟨1,false,true,[.sl 1 (ax l),ai k]⟩)]:=by
 refine mN Tryz.func28 13<|zP 2 [{},{hs:=[(8,{k:=l.length})],T:=9}] [.aa [2,0] [1000000000000]] [yI (kb l)]<|zR (zG [] [yB (Value.bool (decide ((↑k:Int)<(↑l.length:Int)))=Value.bool (decide (k<l.length))) (by simp),yR [AV.sl 1 (ax l),ai ↑k]])
def OD (c:A7) (j:Nat) (m:Nat):Prop:=(c.gf.al.getD m default).name=(dq j).name∧c.nx j<16
instance (c:A7) (j m:Nat):Decidable (OD c j m):=inferInstanceAs (Decidable (_∧_))
def mY (c:A7) (j:Nat) (s:Nat×Nat):Nat->Nat×Nat
 | 0=>s
 | m+1=>if OD c j m then ((mY c j s m).1|||2^j,(mY c j s m).2+1) else mY c j s m
def kQ (c:A7) (k:Nat):Nat->Nat×Nat
 | 0=>(0,0)
 | i+1=>if ((kQ c k i).2:Int)<c.gf.bB then mY c (ft ((i:Int)+k) 10) (kQ c k i) c.gf.al.length else kQ c k i
def GR (c:A7) (k:Nat):Nat:=(kQ c k 10).1
theorem OJ (f:Nat->Int) {j:Nat} (h:j<10):(u6 f)[j]?=some (ai (f j)):=by
 rcases j with _|_|_|_|_|_|_|_|_|_|j<;>first|rfl|omega
theorem BC (c:A7) {j:Nat} (hj:j<10) {s:Nat×Nat} (hs:s.1<1024):∀m,(mY c j s m).1<1024∧(mY c j s m).2≤s.2+m
 | 0=>⟨hs,Nat.le_refl _⟩
 | m+1=>by
  have ih:=BC c hj hs m
  unfold mY
  split
  ·refine ⟨Nat.or_lt_two_pow (n:=10) ih.1 (Nat.pow_lt_pow_right (by decide) hj),?_⟩
   show _+1≤_
   omega
  ·exact ⟨ih.1,ah⟩
theorem w_ (c:A7) (k:Nat):∀i,(kQ c k i).1<1024∧(kQ c k i).2≤i*c.gf.al.length
 | 0=>⟨Nat.zero_lt_succ _,Nat.zero_le _⟩
 | i+1=>by
  have ih:=w_ c k i
  unfold kQ
  split
  ·have hj:=sF ((i:Int)+k) (n:=10) ah
   have:=BC c (j:=ft ((i:Int)+k) 10) ah ih.1 c.gf.al.length
   refine ⟨this.1,Nat.le_trans this.2 ?_⟩
   rw [Nat.succ_mul];omega
  ·refine ⟨ih.1,Nat.le_trans ih.2 ?_⟩
   rw [Nat.succ_mul];omega
theorem vU (c:A7) (k:Nat) {i:Nat} (h:¬((kQ c k i).2:Int)<c.gf.bB):∀d,kQ c k (i+d)=kQ c k i
 | 0=>rfl
 | d+1=>by
  have ih:=vU c k h d
  show (if ((kQ c k (i+d)).2:Int)<c.gf.bB then _ else kQ c k (i+d))=_
  rw [ih,if_neg h]
theorem Nu (c:A7) {j:Nat} (h:j<10):(p9 c)[j+6]?=some (ai (c.nx j)):=by
 rcases j with _|_|_|_|_|_|_|_|_|_|j<;>first|rfl|omega
theorem Mh {j:Nat} (h:j<10):IntKind.i64.wrap (1*2^min ((j:Nat):Int).toNat IntKind.i64.bits)=((2^j:Nat):Int):=by
 have key:∀j:Fin 10,IntKind.i64.wrap (1*2^min ((j.val:Nat):Int).toNat IntKind.i64.bits)=((2^j.val:Nat):Int):=by decide
 exact key ⟨j,h⟩
theorem Mq {a b:Nat} (ha:a<1024) (hb:b<1024):IntKind.i64.wrap ((BitVec.ofInt IntKind.i64.bits (a:Int)|||BitVec.ofInt IntKind.i64.bits (b:Int)).toNat:Nat)=((a|||b:Nat):Int):=by
 have cW:=Nat.or_lt_two_pow (n:=10) (x:=a) (y:=b) ha hb
 rw [BitVec.toNat_or,BitVec.toNat_ofInt,BitVec.toNat_ofInt,show ((a:Int)%((2^IntKind.i64.bits:Nat):Int)).toNat=a by show ((a:Int)%18446744073709551616).toNat=a;omega,show ((b:Int)%((2^IntKind.i64.bits:Nat):Int)).toNat=b by show ((b:Int)%18446744073709551616).toNat=b;omega,IntKind.wrap_i64]
 omega
theorem BB (c:A7) (k:Nat) (hk:k<10) (hm:c.gf.al.length≤8):bK Tryz.prog 29 [.agg (p9 c),ai k] (ai (GR c k)):=by
 have nj:(af aP c.gf.al).length=c.gf.al.length*4:=aG (e:=4) (fun _=>rfl) ..
 refine zO Tryz.func29 59<|zQ 2 [{},{}] []<|zS<|zq<|zB 0 (zL (fun (i:Nat)=>(⟨[(4,ai 0),(2,AV.addr 2 0),(0,AV.agg [ai c.gf.aC,aw c.gf.head,ai c.gf.bB,AV.sl 4 (af aP c.gf.al),AV.sl 7 (af bg c.gf.aF),AV.sl 17 (af bk c.log),ai (c.nx 0),ai (c.nx 1),ai (c.nx 2),ai (c.nx 3),ai (c.nx 4),ai (c.nx 5),ai (c.nx 6),ai (c.nx 7),ai (c.nx 8),ai (c.nx 9)]),(1,ai ↑k),(7,ai i),(5,ai (kQ c k i).1),(6,ai (kQ c k i).2)],[(2,⟨1,false,true,List.map (aQ 2) (p9 c)⟩)]⟩:AS)) (fun i=>(i≤10)) (fun i=>(10-i)) (0) ?_ (zW [.aa [4,2,0,1,7,5,6] [2]]) ?_)
 ·omega
 intro i hi
 have hb:=w_ c k i
 have va:i*c.gf.al.length≤80:=Nat.mul_le_mul hi hm
 by_cases c1:i<10
 case neg =>
  have e:i=10:=ah
  subst e
  refine zS<|zP 1 [yH ([(8,{b:=false})]++yg [3,4,5,6,7])] [.aa [18,4,2,0,1,7,5,6] [2]] (yM 6 (yR false))<|zF 18<|zE 0<|aY<|aN<|bm<|ak<|zP 1 [{}] [.aa [4,18,2,0,1,7,5,6] [2]] []<|zR (cE)
 by_cases c2:((kQ c k i).2:Int)<c.gf.bB
 case neg =>
  have hs:=vU c k c2 (10-i)
  rw [show i+(10-i)=10 by omega] at hs
  refine zS<|zP 1 [{}] [.aa [18,4,2,0,1,7,5,6] [2]] (yM 6 (yT ((↑i:Int)<10)))<|dK 18 ((↑(kQ c k i).snd:Int)<c.gf.bB)<|zE 0<|aY<|aN<|bm<|ak<|zq<|zR (zV [yJ (↑(kQ c k i).fst:Int) (↑(GR c k):Int) (by unfold GR;rw [hs])])
 obtain ⟨j,hj⟩:∃j,j=ft ((i:Int)+k) 10:=⟨_,rfl⟩
 have BZ:j<10:=by have:=sF ((i:Int)+k) (n:=10) ah;omega
 have dI:kQ c k (i+1)=mY c j (kQ c k i) c.gf.al.length:=by show (if _ then _ else _)=_;rw [if_pos c2,←hj]
 have Ly:=Nu c BZ
 have yj:=fy j BZ
 have Re:IntKind.u64.wrap ((j:Nat):Int)=(j:Int):=by rw [IntKind.wrap_u64];omega
 have U5:=fun m=>BC c BZ hb.1 m
 generalize lr:kQ c k i=s at *
 refine zS<|zP 1 [{}] [.aa [18,4,2,0,1,7,5,6] [2]] (yM 6 (yT ((↑i:Int)<10)))<|jO 18 ((↑s.snd:Int)<c.gf.bB)<|a8<|zS<|zB 1<|zP 2 [yH [(2,yV (ai ((↑i:Int)+(↑k:Int)))),(3,yV (ai (↑(ft ((↑i:Int)+(↑k:Int)) (10:Int)):Int))),(4,yV (ai ↑j))],{}] [.aa [9,8,18,4,2,0,1,7,5,6] [2]] [yN ((↑i:Int)+(↑k:Int)),yI (sE ((↑i:Int)+(↑k:Int)) ((10:Int)) ah ah),yB (ai (↑(ft ((↑i:Int)+(↑k:Int)) (10:Int)):Int)=ai ↑j) (by rw [hj])]<|zB 2 (zL (fun (m:Nat)=>(⟨[(8,ai ↑j),(18,ao (decide ((↑s.snd:Int)<c.gf.bB))),(4,ai 0),(2,AV.addr 2 0),(0,AV.agg [ai c.gf.aC,aw c.gf.head,ai c.gf.bB,AV.sl 4 (af aP c.gf.al),AV.sl 7 (af bg c.gf.aF),AV.sl 17 (af bk c.log),ai (c.nx 0),ai (c.nx 1),ai (c.nx 2),ai (c.nx 3),ai (c.nx 4),ai (c.nx 5),ai (c.nx 6),ai (c.nx 7),ai (c.nx 8),ai (c.nx 9)]),(1,ai ↑k),(7,ai ↑i),(9,ai m),(5,ai (mY c j s m).1),(6,ai (mY c j s m).2)],[(2,⟨1,false,true,p9 c⟩)]⟩:AS)) (fun m=>(m≤c.gf.al.length)) (fun m=>(c.gf.al.length-m)) (0) ?_ (zW [.aa [8,18,4,2,0,1,7,9,5,6] [2]]) ?_)
 ·omega
 intro m DS
 have U4:=U5 m
 refine zS<|zP 1 [yH [(4,{k:=c.gf.al.length})]] [.aa [30,8,18,4,2,0,1,7,9,5,6] [2]] [yI nj] (zD 30 ((↑m:Int)<(↑c.gf.al.length:Int)) (fun q=>?_) (fun q=>?_))
 ·have RB:m<c.gf.al.length:=ah
  have ix:=l_ RB
  by_cases cn:(c.gf.al.getD m default).name=(dq j).name
  case neg =>
   have h1:mY c j s (m+1)=mY c j s m:=if_neg (fun q=>cn q.1)
   refine a8<|zS<|zB 3<|zP 1 [{hs:=[(4,{k:=m}),(6,yV (dw (c.gf.al.getD m default).name)),(8,yV (AV.agg (aP (dq j)))),(10,yV (ao ((c.gf.al.getD m default).name == (dq j).name))),(12,{g:=false}),(13,{g:=false}),(14,{g:=false}),(15,{g:=false}),(16,{g:=false}),(17,{b:=false})],T:=14}] [.aa [50,30,8,18,4,2,0,1,7,9,5,6] [2]] ([yR (↑m:Int),yO (m*4<(af aP c.gf.al).length),yA aP c.gf.al m 0,yI yj,yI (fg ((c.gf.al.getD m default).name) ((dq j).name))]++yM 6 (yS (((c.gf.al.getD m default).name == (dq j).name)=false)))<|zF 50<|zK<|aM<|ak<|zX (yH [(1,yV (ai ((↑m:Int)+1)))]) [yN ((↑m:Int)+1)] (aI (m+1) (by assumption) ah (e_ [.aa [8,18,4,2,0,1,7,9,5,6] [2]] [5,6] [] [yB (ai (↑(mY c j s m).fst:Int)=ai (↑(mY c j s (m+1)).fst:Int)) (by rw [h1]),yB (ai (↑(mY c j s m).snd:Int)=ai (↑(mY c j s (m+1)).snd:Int)) (by rw [h1])]))
  by_cases cx:c.nx j<16
  case neg =>
   have h1:mY c j s (m+1)=mY c j s m:=if_neg (fun q=>cx q.2)
   refine a8<|zS<|zB 3<|zP 1 [{hs:=[(4,{k:=m}),(6,yV (dw (c.gf.al.getD m default).name)),(8,yV (AV.agg (aP (dq j)))),(10,yV (ao ((c.gf.al.getD m default).name == (dq j).name))),(14,{k:=j}),(15,yV (ai (c.nx j)))],T:=14}] [.aa [50,30,8,18,4,2,0,1,7,9,5,6] [2]] ([yR (↑m:Int),yO (m*4<(af aP c.gf.al).length),yA aP c.gf.al m 0,yI yj,yI (fg ((c.gf.al.getD m default).name) ((dq j).name))]++yM 3 (yS (((c.gf.al.getD m default).name == (dq j).name)=true))++ [yR (↑j:Int),yI BZ,yS (((c.gf.al.getD m default).name == (dq j).name)=true),yI Ly]++yM 2 (yS (((c.gf.al.getD m default).name == (dq j).name)=true)))<|dK 50 (c.nx j<16)<|zK<|aM<|ak<|zX (yH [(1,yV (ai ((↑m:Int)+1)))]) [yN ((↑m:Int)+1)] (aI (m+1) (by assumption) ah (e_ [.aa [8,18,4,2,0,1,7,9,5,6] [2]] [5,6] [] [yB (ai (↑(mY c j s m).fst:Int)=ai (↑(mY c j s (m+1)).fst:Int)) (by rw [h1]),yB (ai (↑(mY c j s m).snd:Int)=ai (↑(mY c j s (m+1)).snd:Int)) (by rw [h1])]))
  have h1:mY c j s (m+1)=((mY c j s m).1|||2^j,(mY c j s m).2+1):=if_pos ⟨cn,cx⟩
  have Kt:=Mh BZ
  have sH:=Mq (a:=(mY c j s m).1) (b:=2^j) ah (by have:=Nat.pow_lt_pow_right (a:=2) (by decide) BZ;omega)
  refine a8<|zS<|zB 3<|zP 1 [{hs:=[(4,{k:=m}),(6,yV (dw (c.gf.al.getD m default).name)),(8,yV (AV.agg (aP (dq j)))),(10,yV (ao ((c.gf.al.getD m default).name == (dq j).name))),(14,{k:=j}),(15,yV (ai (c.nx j)))],T:=14}] [.aa [50,30,8,18,4,2,0,1,7,9,5,6] [2]] ([yR (↑m:Int),yO (m*4<(af aP c.gf.al).length),yA aP c.gf.al m 0,yI yj,yI (fg ((c.gf.al.getD m default).name) ((dq j).name))]++yM 3 (yS (((c.gf.al.getD m default).name == (dq j).name)=true))++ [yR (↑j:Int),yI BZ,yS (((c.gf.al.getD m default).name == (dq j).name)=true),yI Ly]++yM 2 (yS (((c.gf.al.getD m default).name == (dq j).name)=true)))<|jO 50 (c.nx j<16)<|zP 1 [yH [(2,yV (AV.val (Value.int .u64 (↑j:Int)))),(3,yV (ai (↑((2:Nat)^j):Int))),(4,yV (ai (↑((mY c j s m).fst|||(2:Nat)^j):Int)))]] [.aa [5,50,30,8,18,4,2,0,1,7,9,6] [2]] [yI (yd Re),yI (yc Kt),yO ((0:Int)≤(↑j:Int)),yI (yc sH)]<|zX (yH [(1,yV (ai ((↑(mY c j s m).snd:Int)+1)))]) [yN ((↑(mY c j s m).snd:Int)+1)]<|aM<|ak<|zX (yH [(1,yV (ai ((↑m:Int)+1)))]) [yN ((↑m:Int)+1)] (aI (m+1) (by assumption) ah (e_ [.aa [8,18,4,2,0,1,7,9,5,6] [2]] [5,6] [] [yB (ai (↑((mY c j s m).fst|||(2:Nat)^j):Int)=ai (↑(mY c j s (m+1)).fst:Int)) (by rw [h1]),yB (ai ((↑(mY c j s m).snd:Int)+1)=ai (↑(mY c j s (m+1)).snd:Int)) (by rw [h1];rfl)]))
 ·have em:m=c.gf.al.length:=ah
  subst em
  refine zE 2<|aY<|aN<|bm<|aM<|ak<|zX (yH [(1,yV (ai ((↑i:Int)+1)))]) [yN ((↑i:Int)+1)] (aI (i+1) (by assumption) ah (e_ [.aa [4,2,0,1,7,5,6] [2]] [5,6] [] [yB (ai (↑(mY c j s c.gf.al.length).fst:Int)=ai (↑(kQ c k (i+1)).fst:Int)) (by rw [dI]),yB (ai (↑(mY c j s c.gf.al.length).snd:Int)=ai (↑(kQ c k (i+1)).snd:Int)) (by rw [dI])]))
def Gf (f:Nat->Int) (i:Nat) (v:Int):Nat->Int:=fun j=>if j=i then v else f j
def bF (e:eK) (nx:Nat->Int) (di:Nat):Nat->eK×(Nat->Int)
 | 0=>(e,nx)
 | i+1=>if di.testBit i=true∧lz (bF e nx di i).1 (dq i).name 4 ((bF e nx di i).2 i)=0 then (tc (bF e nx di i).1 (dq i).name (300+u64 i) 4 ((bF e nx di i).2 i),Gf (bF e nx di i).2 i ((bF e nx di i).2 i+1)) else bF e nx di i
theorem Mr (f:Nat->Int) {i:Nat} (h:i<10) (v:Int):(u6 f).set i (ai v)=u6 (Gf f i v):=by
 rcases i with _|_|_|_|_|_|_|_|_|_|i<;>first|rfl|omega
theorem Hw (l:List fW) (v:fW):(z1 l v).length=l.length+1:=by
 have:=Dv l v.name
 unfold z1
 simp only [List.length_append,List.length_take,List.length_drop,List.length_cons,List.length_nil]
 omega
theorem L9 {e:eK} (hB:ob e) {n:List UInt8} {seed:UInt64} {h leaf:Int} (hq:lz e n h leaf=0):ob (tc e n seed h leaf)∧(tc e n seed h leaf).ar.length=e.ar.length+1:=by
 have cf:tc e n seed h leaf= {e with ar:=z1 e.ar ⟨n,oA h leaf,nZ seed h leaf (dJ e),nY seed h leaf⟩}:=if_neg (fun q=>q hq)
 rw [cf]
 exact ⟨⟨hB.Qc,hB.dep⟩,Hw _ _⟩
theorem Bn {e:eK} (hB:ob e) (nx:Nat->Int) (di:Nat):∀i,ob (bF e nx di i).1∧(bF e nx di i).1.ar.length≤e.ar.length+i
 | 0=>⟨hB,Nat.le_refl _⟩
 | i+1=>by
  obtain ⟨h1,h2⟩:=Bn hB nx di i
  unfold bF
  split
  ·rename_i q
   obtain ⟨h3,h4⟩:=L9 (seed:=300+u64 i) h1 q.2
   exact ⟨h3,by show (tc _ _ _ _ _).ar.length≤_;omega⟩
  ·exact ⟨h1,ah⟩
theorem F_ {e:eK} {n:List UInt8} {leaf:Int} (h:lz e n 4 leaf=0):0≤leaf∧leaf<16:=by
 have hs:vN 4 leaf=0:=by
  unfold lz at h
  split at h
  ·rename_i q;exact absurd h q
  split at h
  ·omega
  ·exact h
 have nb:¬jK 4 leaf:=by
  intro q;unfold vN at hs;rw [if_pos q] at hs;omega
 unfold jK at nb
 have:(2:Nat)^(4:Int).toNat=16:=rfl
 omega
theorem Mc {w i:Nat} (hw:w<1024) (hi:i<10):IntKind.i64.wrap ((BitVec.ofInt IntKind.i64.bits ((w/2^i:Nat):Int)&&&BitVec.ofInt IntKind.i64.bits 1).toNat:Nat)=if w.testBit i=true then 1 else 0:=by
 rw [BitVec.toNat_and,BitVec.toNat_ofInt,BitVec.toNat_ofInt,show ((1:Int)%((2^IntKind.i64.bits:Nat):Int)).toNat=1 by rfl]
 have hq:w/2^i<1024:=Nat.lt_of_le_of_lt (Nat.div_le_self _ _) hw
 rw [Nat.testBit_eq_decide_div_mod_eq]
 generalize w/2^i=q at *
 rw [show (((q:Nat):Int)%((2^IntKind.i64.bits:Nat):Int)).toNat=q by show (((q:Nat):Int)%18446744073709551616).toNat=_;omega]
 rw [Nat.and_one_is_mod]
 have:q%2<2:=Nat.mod_lt _ (by decide)
 by_cases c:q%2=1
 ·rw [c];decide
 ·rw [show q%2=0 by omega];decide
theorem JQ (w:Nat) {i:Nat} (hi:i<10):((w:Nat):Int).fdiv (2^min ((i:Nat):Int).toNat IntKind.i64.bits)=((w/2^i:Nat):Int):=by
 rw [show min ((i:Nat):Int).toNat IntKind.i64.bits=i from Nat.min_eq_left (by show i≤64;omega),Int.fdiv_eq_ediv_of_nonneg _ (Int.pow_nonneg (by decide))]
 push_cast
 rfl
theorem Bl (qi:∀e,ob e->bK Tryz.prog 40 [.agg (bk e)] (.br [.own 1 (ag (j0 e)),ai (eY e)])) (c:A7) (e:eK) (di:Nat) (hw:di<1024) (hB:ob e) (hv:e.ar.length≤900000):bK Tryz.prog 22 [.agg (p9 c),.agg (bk e),ai di] (.br [.agg (bk (bF e c.nx di 10).1),.arr (u6 (bF e c.nx di 10).2)]):=by
 refine zO Tryz.func22 48<|zP 2 [yH [(3,yV (AV.arr (ax (List.replicate 10 (0:Int)))))],yH [(1,yV (AV.agg [ai (c.nx 0),ai (c.nx 1),ai (c.nx 2),ai (c.nx 3),ai (c.nx 4),ai (c.nx 5),ai (c.nx 6),ai (c.nx 7),ai (c.nx 8),ai (c.nx 9)])),(2,yV (AV.arr (ax (List.replicate 10 (0:Int)))))]] [.aa [8,7,6,4,3,0,1,2] [8,7,6,4,3]] [yR (ax (List.replicate 10 (0:Int))),yR (List.take 10 (List.drop 6 (List.map (aQ 7) (List.map (aQ 6) (List.map (aQ 4) (List.map (aQ 3) (p9 c))))))),yR 10,yR (ax (List.replicate 10 (0:Int))),yL 10 10]<|zS<|zq<|zB 0 (zL (fun (i:Nat)=>(⟨[(8,AV.addr 8 0),(7,AV.addr 7 0),(6,AV.addr 6 0),(4,AV.addr 4 0),(3,AV.addr 3 0),(0,AV.agg [ai c.gf.aC,aw c.gf.head,ai c.gf.bB,AV.sl 4 (af aP c.gf.al),AV.sl 7 (af bg c.gf.aF),AV.sl 17 (af bk c.log),ai (c.nx 0),ai (c.nx 1),ai (c.nx 2),ai (c.nx 3),ai (c.nx 4),ai (c.nx 5),ai (c.nx 6),ai (c.nx 7),ai (c.nx 8),ai (c.nx 9)]),(1,AV.agg (bk e)),(2,ai ↑di),(9,ai i)],[(7,⟨1,true,true,ax (List.replicate 10 (0:Int))⟩),(6,⟨1,false,true,[ai 0,eh,ai 0,AV.val (Value.string (ByteArray.mk #[])),ai 0,eh,ai 0,eh,eh,AV.nil,AV.nil,AV.nil,ai 0,eh,eh,eh,AV.nil]⟩),(3,⟨1,false,true,List.map (aQ 8) (List.map (aQ 7) (List.map (aQ 6) (List.map (aQ 4) (List.map (aQ 3) (p9 c)))))⟩),(4,⟨1,false,true,bk (bF e c.nx di i).1⟩),(8,⟨1,true,true,u6 (bF e c.nx di i).2⟩)]⟩:AS)) (fun i=>(i≤10)) (fun i=>(10-i)) (0) ?_ (zW [.aa [8,7,6,4,3,0,1,2,9] [7,6,3,4,8]]) ?_)
 ·omega
 intro i hi
 obtain ⟨b1,b2⟩:=Bn hB c.nx di i
 refine zS<|a7.mW 1 [{}] bH (s':=AS.mk [(15,ao (decide ((↑i:Int)<10))),(14,ai ↑i),(8,AV.addr 8 0),(7,AV.addr 7 0),(6,AV.addr 6 0),(4,AV.addr 4 0),(3,AV.addr 3 0),(0,AV.agg [ai c.gf.aC,aw c.gf.head,ai c.gf.bB,AV.sl 4 (af aP c.gf.al),AV.sl 7 (af bg c.gf.aF),AV.sl 17 (af bk c.log),ai (c.nx 0),ai (c.nx 1),ai (c.nx 2),ai (c.nx 3),ai (c.nx 4),ai (c.nx 5),ai (c.nx 6),ai (c.nx 7),ai (c.nx 8),ai (c.nx 9)]),(1,AV.agg (bk e)),(2,ai ↑di),(9,ai ↑i)] [(7,Row.mk 1 true true (ax (List.replicate 10 (0:Int)))),(6,Row.mk 1 false true [ai 0,eh,ai 0,AV.val (Value.string (ByteArray.mk #[])),ai 0,eh,ai 0,eh,eh,AV.nil,AV.nil,AV.nil,ai 0,eh,eh,eh,AV.nil]),(3,Row.mk 1 false true (List.map (aQ 8) (List.map (aQ 7) (List.map (aQ 6) (List.map (aQ 4) (List.map (aQ 3) (p9 c))))))),(4,Row.mk 1 false true (bk (bF e c.nx di i).fst)),(8,Row.mk 1 true true (u6 (bF e c.nx di i).snd))]) (C:=[]) bH trivial (zD 15 ((↑i:Int)<10) (fun q=>?_) (fun q=>?_))
 ·have dM:i<10:=ah
  have PF:=qi _ b1
  have yj:=fy i dM
  have Hz:=ze (bF e c.nx di i).1 (dq i).name (300+u64 i) 4 ((bF e c.nx di i).2 i) ah PF
  have Ly:=OJ (bF e c.nx di i).2 dM
  have Ud:=Mr (bF e c.nx di i).2 dM ((bF e c.nx di i).2 i+1)
  have MA:IntKind.u64.wrap ((i:Nat):Int)=(i:Int):=by rw [IntKind.wrap_u64];omega
  have E4:=JQ di dM
  have O4:=Mc hw dM
  have dI:bF e c.nx di (i+1)=if di.testBit i=true∧lz (bF e c.nx di i).1 (dq i).name 4 ((bF e c.nx di i).2 i)=0 then (tc (bF e c.nx di i).1 (dq i).name (300+u64 i) 4 ((bF e c.nx di i).2 i),Gf (bF e c.nx di i).2 i ((bF e c.nx di i).2 i+1)) else bF e c.nx di i:=rfl
  generalize bF e c.nx di i=S at *
  clear qi PF
  by_cases tb:di.testBit i=true
  case neg =>
   rw [if_neg tb] at O4
   rw [if_neg (fun q=>tb q.1)] at dI
   refine a8<|zS<|zB 1<|zS<|zP 1 [yH [(2,yV (AV.val (Value.int .u64 (↑i:Int)))),(3,yV (ai (↑(di/(2:Nat)^i):Int))),(4,yV (ai 0))]] [.aa [23,15,8,7,6,4,3,0,1,2,9] [7,6,3,4,8]] [yI (yd MA),yI (yc E4),yO ((0:Int)≤(↑i:Int)),yI (yc O4)]<|dQ 23 ((0:Int) == (0:Int)) fX<|zE 1<|aY<|bm<|ak<|zX (yH [(1,yV (ai ((↑i:Int)+1)))]) [yN ((↑i:Int)+1)] (aI (i+1) (by assumption) ah (e_ [.aa [8,7,6,4,3,0,1,2,9] [7,6,3,4,8]] [] [4,8] [yB (bk S.fst=bk (bF e c.nx di (i+1)).fst) (by rw [dI]),yB (u6 S.snd=u6 (bF e c.nx di (i+1)).snd) (by rw [dI])]))
  rw [if_pos tb] at O4
  by_cases cq:lz S.1 (dq i).name 4 (S.2 i)=0
  case neg =>
   rw [if_neg (fun q=>cq q.2)] at dI
   have Rg:Bd S.1 (dq i).name (300+u64 i) 4 (S.2 i)=yl:=if_neg cq
   rw [Rg] at Hz
   refine a8<|zS<|zB 1<|zS<|zP 1 [yH [(2,yV (AV.val (Value.int .u64 (↑i:Int)))),(3,yV (ai (↑(di/(2:Nat)^i):Int))),(4,yV (ai 1)),(5,yV (ao false))]] [.aa [23,15,8,7,6,4,3,0,1,2,9] [7,6,3,4,8]] [yI (yd MA),yI (yc E4),yB ((0:Int)≤(↑i:Int)) (by simp [cq]),yI (yc O4),yR (ao false)]<|zF 23<|a8<|zS<|FM 16 [14,15] [(2,yV (AV.agg (aP (dq i)))),(5,yV (aw (u64 (↑i:Int)))),(6,yV (aw (300+u64 (↑i:Int)))),(8,{k:=i}),(9,yV (ai (S.snd i))),(10,yV (AV.br [AV.agg [ai 0,aw 0,ai 0,AV.val (Value.string (ByteArray.mk #[])),ai 0,aw 0,ai 0,aw 0,aw 0,AV.nil,AV.nil,AV.nil,ai 0,aw 0,aw 0,aw 0,AV.nil],ai (lz S.fst (dq i).name (4:Int) (S.snd i))]))] ([yI yj,yI (a6 ((↑i:Int))),yR (aw (300+u64 (↑i:Int))),yR (↑i:Int),yI dM,yI Ly,yI Hz,yR (AV.agg (bk S.fst)),yR (ai ↑i),yR (AV.agg (aP (dq i))),yI yj,yR (dw (dq i).name),yR (ai ↑i),yR (aw (u64 (↑i:Int))),yI (a6 ((↑i:Int)))]++yM 2 (yR (aw (300+u64 (↑i:Int))))++ [yR (ai ↑i),yR (AV.addr 8 i),yR (↑i:Int),yI dM,yR (ai (S.snd i)),yI Ly,yR (AV.br [AV.agg [ai 0,aw 0,ai 0,AV.val (Value.string (ByteArray.mk #[])),ai 0,aw 0,ai 0,aw 0,aw 0,AV.nil,AV.nil,AV.nil,ai 0,aw 0,aw 0,aw 0,AV.nil],ai (lz S.fst (dq i).name (4:Int) (S.snd i))]),yI Hz,yR (AV.br [AV.agg [ai 0,aw 0,ai 0,AV.val (Value.string (ByteArray.mk #[])),ai 0,aw 0,ai 0,aw 0,aw 0,AV.nil,AV.nil,AV.nil,ai 0,aw 0,aw 0,aw 0,AV.nil],ai (lz S.fst (dq i).name (4:Int) (S.snd i))]),yR (AV.agg [ai 0,aw 0,ai 0,AV.val (Value.string (ByteArray.mk #[])),ai 0,aw 0,ai 0,aw 0,aw 0,AV.nil,AV.nil,AV.nil,ai 0,aw 0,aw 0,aw 0,AV.nil]),yR (ai (lz S.fst (dq i).name (4:Int) (S.snd i))),yL 17 17,yR (ai (lz S.fst (dq i).name (4:Int) (S.snd i)))])<|ak<|a7.su [.aa [11,32,10,23,15,8,7,6,4,3,0,1,2,9] [10,7,6,3,4,8]] bH<|zP 1 [yH [(1,yV (ao false))]] [.aa [39,11,32,10,23,15,8,7,6,4,3,0,1,2,9] [10,7,6,3,4,8]] [yB (ao (lz S.fst (dq i).name (4:Int) (S.snd i) == (0:Int))=ao false) (by simp [cq])]<|zF 39<|zK<|aM<|ak<|zX (yH [(1,yV (ai ((↑i:Int)+1)))]) [yN ((↑i:Int)+1)] (aI (i+1) (by assumption) ah (e_ [.aa [8,7,6,4,3,0,1,2,9] [7,6,3,4,8]] [] [4,8] [yB (List.map (aQ 10) (List.map (aQ 10) (bk S.fst))=bk (bF e c.nx di (i+1)).fst) (by rw [dI];rfl),yB (u6 S.snd=u6 (bF e c.nx di (i+1)).snd) (by rw [dI])]))
  rw [if_pos ⟨tb,cq⟩] at dI
  have hl:=F_ cq
  have Rg:Bd S.1 (dq i).name (300+u64 i) 4 (S.2 i)=bk (tc S.1 (dq i).name (300+u64 i) 4 (S.2 i)):=if_pos cq
  rw [Rg,cq] at Hz
  have T9:IntKind.i64.wrap (S.2 i+1)=S.2 i+1:=by rw [IntKind.wrap_i64];omega
  generalize tc S.1 (dq i).name (300+u64 i) 4 (S.2 i)=F at *
  refine a8<|zS<|zB 1<|zS<|zP 1 [yH [(2,yV (AV.val (Value.int .u64 (↑i:Int)))),(3,yV (ai (↑(di/(2:Nat)^i):Int))),(4,yV (ai 1))]] [.aa [23,15,8,7,6,4,3,0,1,2,9] [7,6,3,4,8]] [yI (yd MA),yI (yc E4),yO ((0:Int)≤(↑i:Int)),yI (yc O4)]<|bo 23 ((1:Int) == (0:Int)) bR<|a8<|zS<|FM 16 [14,15] [(2,yV (AV.agg (aP (dq i)))),(5,yV (aw (u64 (↑i:Int)))),(6,yV (aw (300+u64 (↑i:Int)))),(8,{k:=i}),(9,yV (ai (S.snd i))),(10,{av:=some (AV.br [AV.agg (bk F),ai 0]),b:=false})] ([yI yj,yI (a6 ((↑i:Int))),yR (aw (300+u64 (↑i:Int))),yR (↑i:Int),yI dM,yI Ly,yI Hz,yR (AV.agg (bk S.fst)),yR (ai ↑i),yR (AV.agg (aP (dq i))),yI yj,yR (dw (dq i).name),yR (ai ↑i),yR (aw (u64 (↑i:Int))),yI (a6 ((↑i:Int)))]++yM 2 (yR (aw (300+u64 (↑i:Int))))++ [yR (ai ↑i),yR (AV.addr 8 i),yR (↑i:Int),yI dM,yR (ai (S.snd i)),yI Ly,yR (AV.br [AV.agg (bk F),ai 0]),yI Hz,yR (AV.br [AV.agg (bk F),ai 0]),yR (AV.agg (bk F)),yR (ai 0),yL 17 17,yR (ai 0)])<|ak<|a7.su [.aa [11,32,10,23,15,8,7,6,4,3,0,1,2,9] [10,7,6,3,4,8]] bH<|zq<|dQ 39 ((0:Int) == (0:Int)) fX<|zP 1 [{}] [.aa [39,11,32,10,23,15,8,7,6,4,3,0,1,2,9] [4,10,7,6,3,8]] [yL 17 17]<|zX (yH [(1,{k:=i}),(2,yV (ai (S.snd i))),(3,yV (ai (S.snd i+1))),(4,{k:=i}),(5,yV (AV.arr (u6 (Gf S.snd i (S.snd i+1)))))]) [yR (↑i:Int),yI dM,yI Ly,yN (S.snd i+1),yR (↑i:Int),yI dM,yI Ud,yB (i+1≤10) (by assumption)]<|aM<|ak<|zX (yH [(1,yV (ai ((↑i:Int)+1)))]) [yN ((↑i:Int)+1)] (aI (i+1) (by assumption) ah (e_ [.aa [8,7,6,4,3,0,1,2,9] [7,6,3,4,8]] [] [4,8] [yB (List.map (aQ 10) (List.take 0 (List.map (aQ 10) (bk S.fst))++(bk F)++List.drop 17 (List.map (aQ 10) (bk S.fst)))=bk (bF e c.nx di (i+1)).fst) (by rw [dI];rfl),yB (u6 (Gf S.snd i (S.snd i+1))=u6 (bF e c.nx di (i+1)).snd) (by rw [dI])]))
 ·have ei:i=10:=ah
  subst ei
  refine zE 0<|aY<|aN<|bm<|ak<|zS<|FM 3 [2] [(0,yV (AV.agg [ai ((bF e c.nx di 10).fst.aC),aw ((bF e c.nx di 10).fst.prev),ai ((bF e c.nx di 10).fst.kind),dw (bF e c.nx di 10).fst.name,ai ((bF e c.nx di 10).fst.kh),aw ((bF e c.nx di 10).fst.kr),ai ((bF e c.nx di 10).fst.bB),aw ((bF e c.nx di 10).fst.dep.cm),aw ((bF e c.nx di 10).fst.dep.peer),AV.sl 1 (ag (bF e c.nx di 10).fst.dep.box),AV.sl 1 (af ay (bF e c.nx di 10).fst.dep.ae),AV.sl 1 (aj (bF e c.nx di 10).fst.dep.au),ai ((bF e c.nx di 10).fst.dep.need),aw ((bF e c.nx di 10).fst.dep.target),aw ((bF e c.nx di 10).fst.cm),aw ((bF e c.nx di 10).fst.target),AV.sl 4 (af bp (bF e c.nx di 10).fst.ar)])),(1,yV (AV.agg [ai ((bF e c.nx di 10).snd 0),ai ((bF e c.nx di 10).snd 1),ai ((bF e c.nx di 10).snd 2),ai ((bF e c.nx di 10).snd 3),ai ((bF e c.nx di 10).snd 4),ai ((bF e c.nx di 10).snd 5),ai ((bF e c.nx di 10).snd 6),ai ((bF e c.nx di 10).snd 7),ai ((bF e c.nx di 10).snd 8),ai ((bF e c.nx di 10).snd 9)]))] [yR (List.take 17 (List.drop 0 (bk (bF e c.nx di 10).fst))),yR 17,yR (List.take 10 (List.drop 0 (u6 (bF e c.nx di 10).snd))),yR 10,yL 17 17,yR (AV.agg [ai ((bF e c.nx di 10).snd 0),ai ((bF e c.nx di 10).snd 1),ai ((bF e c.nx di 10).snd 2),ai ((bF e c.nx di 10).snd 3),ai ((bF e c.nx di 10).snd 4),ai ((bF e c.nx di 10).snd 5),ai ((bF e c.nx di 10).snd 6),ai ((bF e c.nx di 10).snd 7),ai ((bF e c.nx di 10).snd 8),ai ((bF e c.nx di 10).snd 9)]),yR (List.take 10 (List.drop 0 (u6 (bF e c.nx di 10).snd))),yR 10,yL 10 10]<|ak<|a7.su [.aa [15,8,7,6,4,3,0,1,2,9] [7,6,3,4,8]] bH<|zR (zV [yR 10,yR (Value.int .i64 (bF e c.nx di 10).fst.aC),yR (Value.int .u64 (wv (bF e c.nx di 10).fst.prev)),yR (Value.int .i64 (bF e c.nx di 10).fst.kind),yR (Value.string (ByteArray.mk (bF e c.nx di 10).fst.name.toArray)),yR (Value.int .i64 (bF e c.nx di 10).fst.kh),yR (Value.int .u64 (wv (bF e c.nx di 10).fst.kr)),yR (Value.int .i64 (bF e c.nx di 10).fst.bB),yR (Value.int .u64 (wv (bF e c.nx di 10).fst.dep.cm)),yR (Value.int .u64 (wv (bF e c.nx di 10).fst.dep.peer)),yR (ag (bF e c.nx di 10).fst.dep.box),yR (af ay (bF e c.nx di 10).fst.dep.ae),yR (aj (bF e c.nx di 10).fst.dep.au),yR (Value.int .i64 (bF e c.nx di 10).fst.dep.need),yR (Value.int .u64 (wv (bF e c.nx di 10).fst.dep.target)),yR (Value.int .u64 (wv (bF e c.nx di 10).fst.cm)),yR (Value.int .u64 (wv (bF e c.nx di 10).fst.target)),yR (af bp (bF e c.nx di 10).fst.ar),yR (u6 (bF e c.nx di 10).snd)])
end Go.Proofs.YtjgbhhnghedgdaaGreatDoor
