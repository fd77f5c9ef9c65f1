import Derived.Test.YtjgbhhnghedgdaaGreatDoorZaGrC2
set_option linter.all false
namespace Go.Proofs.YtjgbhhnghedgdaaGreatDoor
open Go.RowKit
set_option maxRecDepth 100000
set_option maxHeartbeats 4000000
theorem Ft (l:List gk) (n:List UInt8) {i:Nat} (h:i<l.length):Ar (l.take (i+1)) n=if Oi (l.getD i default).name n=true∧Ar (l.take i) n=i then i+1 else Ar (l.take i) n:=by
 unfold Ar
 rw [List.take_add_one,List.getD_eq_getElem?_getD,List.getElem?_eq_getElem h,List.takeWhile_append,List.length_take,Nat.min_eq_left ah]
 by_cases c:(List.takeWhile (fun v:gk=>Oi v.name n) (l.take i)).length=i
 ·rw [if_pos c]
  by_cases c2:Oi l[i].name n=true
  ·rw [if_pos ⟨c2,c⟩]
   simp [c2];omega
  ·rw [if_neg (fun q=>c2 q.1)]
   simp [c2];omega
 ·rw [if_neg c,if_neg (fun q=>c q.2)]
theorem Eb (l:List gk) (n:List UInt8):Ar l n≤l.length:=(List.takeWhile_sublist _).length_le
theorem Lq {l:List gk} {n:List UInt8} (h:∀j,j<l.length->(l.getD j default).name≠n):Jk l n=false:=by
 unfold Jk
 rw [List.any_eq_false]
 intro v hv
 obtain ⟨j,hj,rfl⟩:=List.mem_iff_getElem.1 hv
 have:=h j hj
 rw [List.getD_eq_getElem?_getD,List.getElem?_eq_getElem hj] at this
 simpa using this
theorem Lr {l:List gk} {n:List UInt8} {i:Nat} (hi:i<l.length) (e:(l.getD i default).name=n):Jk l n=true:=by
 unfold Jk
 rw [List.any_eq_true]
 rw [List.getD_eq_getElem?_getD,List.getElem?_eq_getElem hi] at e
 exact ⟨_,List.getElem_mem hi,by simpa using e⟩
def zh:List AV:=[ai 0,aw 0,ai 0,db [],ai 0,aw 0,ai 0,aw 0,aw 0,.nil,.nil,.nil,ai 0,aw 0,aw 0,aw 0,.nil]
def BJ (e:eF) (n:List UInt8) (seed:UInt64) (h leaf:Int):List AV:=if lL e n h leaf=0 then aT (tA e n seed h leaf) else zh
theorem Ae (e:eF) (n:List UInt8) (seed:UInt64) (h leaf:Int) (hv:e.aq.length≤1000000) (m9:bK Tryz.prog 40 [.agg (aT e)] (.bq [.own 1 (ag (fA e)),ai (eu e)])):bK Tryz.prog 26 [.agg (aT e),db n,aw seed,ai h,ai leaf] (.bq [.agg (BJ e n seed h leaf),ai (lL e n h leaf)]):=by
 have xR:(af a8 e.aq).length=e.aq.length*4:=aF (e:=4) (fun _=>rfl) ..
 by_cases cb:eu e=0
 case neg =>
  have ce:lL e n h leaf=eu e:=if_pos cb
  have cf:BJ e n seed h leaf=zh:=if_neg (by rw [ce];exact cb)
  rw [cf,ce]
  refine zO Tryz.func26 89<|zP 2 [{},yH [(1,yV (AV.bq [AV.own 1 (ag (fA e)),ai (eu e)]))]] [.ae [13,12,11,10,5,0,1,2,3,4] [1020,10,5]] [yI m9,yI (aR (fA e))]<|zS<|zQ 1 [yH [(1,yV (ao true))]] [yB (ao (eu e != (0:Int))=ao true) (by simp [cb])]<|zT 24<|zP 1 [{}] [.ae [11,24,13,12,10,5,0,1,2,3,4] [10,1020,5]] [yL 17 17]<|dk (bV)
 have pD:=uO e cb
 rw [cb] at m9
 have KX:=oH (fA e) ah
 rw [show hash 16 (fA e)=de e from rfl] at KX
 refine zO Tryz.func26 89<|zP 2 [{},yH [(1,yV (AV.bq [AV.own 1 (ag (fA e)),ai 0]))]] [.ae [13,12,11,10,5,0,1,2,3,4] [1020,10,5]] [yI m9,yI (aR (fA e))]<|zS<|zq<|zF 24<|a_<|zq<|zS<|zq<|zB 0 (zL (fun (p:Nat×Nat)=>(⟨[(24,ao ((0:Int) != (0:Int))),(13,ai 0),(12,AV.ref 1020),(10,AV.addr 10 0),(5,AV.addr 5 0),(0,AV.agg (aT e)),(1,db n),(2,aw seed),(3,ai h),(4,ai leaf),(15,ai p.1),(14,ai p.2)],[(1020,⟨1,true,false,ag (fA e)⟩),(10,⟨1,false,true,[ai 0,cO,ai 0,AV.val (Value.string (ByteArray.mk #[])),ai 0,cO,ai 0,cO,cO,AV.nil,AV.nil,AV.nil,ai 0,cO,cO,cO,AV.nil]⟩),(5,⟨1,false,true,List.map (aD 1020) (List.map (aD 10) (List.map (aD 5) (aT e)))⟩)]⟩:AS)) (fun p=>(p.1≤e.aq.length∧p.2=Ar (e.aq.take p.1) n∧ ∀j,j<p.1->(e.aq.getD j default).name≠n)) (fun p=>(e.aq.length-p.1)) ((0,0)) ?_ (zW [.ae [24,13,12,10,5,0,1,2,3,4,15,14] [1020,10,5]]) ?_)
 ·exact ⟨ah,rfl,ah⟩
 rintro ⟨i,a⟩ ⟨hi,ha,gf⟩
 simp only at hi ha gf
 refine zS<|zP 1 [yH [(3,{k:=e.aq.length})]] [.ae [31,24,13,12,10,5,0,1,2,3,4,15,14] [1020,10,5]] [yI xR] (zD 31 ((↑i:Int)<(↑e.aq.length:Int)) (fun q=>?_) (fun q=>?_))
 ·have dz:i<e.aq.length:=ah
  have gh:=k9 dz
  have dP:=Ft e.aq n dz
  by_cases cn:(e.aq.getD i default).name=n
  ·have hd:=Lr dz cn
   have ce:lL e n h leaf=10:=by unfold lL;rw [if_neg (fun q=>q cb),if_pos hd]
   have cf:BJ e n seed h leaf=zh:=if_neg ah
   rw [cf,ce]
   refine a_<|zS<|zB 1<|zS<|zP 1 [yH [(3,{k:=i}),(5,yV (db (e.aq.getD i default).name)),(7,yV (ao ((e.aq.getD i default).name == n)))]] [.ae [41,31,24,13,12,10,5,0,1,2,3,4,15,14] [1020,10,5]] [yR (↑i:Int),yO (i*4<(af a8 e.aq).length),yA a8 e.aq i 0,yI (fX ((e.aq.getD i default).name) n)]<|du 41 ((e.aq.getD i default).name == n) (by simp_all)<|zP 1 [{}] [.ae [11,41,31,24,13,12,10,5,0,1,2,3,4,15,14] [10,1020,5]] [yL 17 17]<|dk<|aY<|aI<|c_<|aY<|aI (bV)
  by_cases cl:Oi (e.aq.getD i default).name n=true
  ·by_cases ca:a=i
   ·rw [if_pos ⟨cl,ah⟩] at dP
    have Wx:((a:Int) == (i:Int))=true:=beq_iff_eq.2 ah
    clear ha ca
    refine a_<|zS<|zB 1<|zS<|zP 1 [yH [(3,{k:=i}),(5,yV (db (e.aq.getD i default).name)),(7,yV (ao ((e.aq.getD i default).name == n)))]] [.ae [41,31,24,13,12,10,5,0,1,2,3,4,15,14] [1020,10,5]] [yR (↑i:Int),yO (i*4<(af a8 e.aq).length),yA a8 e.aq i 0,yI (fX ((e.aq.getD i default).name) n)]<|bj 41 ((e.aq.getD i default).name == n) (by simp_all)<|a_<|zP 1 [yH [(3,{k:=i}),(5,yV (db (e.aq.getD i default).name))]] [.ae [55,41,31,24,13,12,10,5,0,1,2,3,4,15,14] [1020,10,5]] ([yR (↑i:Int),yO (i*4<(af a8 e.aq).length),yA a8 e.aq i 0]++yM 4 (yB (Op.bytesLess (ByteArray.mk (e.aq.getD i default).name.toArray).toList (ByteArray.mk n.toArray).toList=true) (by assumption)))<|du 55 ((↑a:Int) == (↑i:Int)) (by assumption)<|zX (yH [(1,yV (ai ((↑i:Int)+1)))]) [yN ((↑i:Int)+1)]<|aM<|ak<|zX (yH [(1,yV (ai ((↑i:Int)+1)))]) [yN ((↑i:Int)+1)] (aJ (i+1,i+1) ⟨ah,by show i+1=_;rw [dP],fun j hj=>by by_cases e2:j=i;(subst e2;exact cn);exact gf j ah⟩ ah (zW [.ae [24,13,12,10,5,0,1,2,3,4,15,14] [1020,10,5]]))
   ·rw [if_neg (fun q=>ca ah)] at dP
    refine a_<|zS<|zB 1<|zS<|zP 1 [yH [(3,{k:=i}),(5,yV (db (e.aq.getD i default).name)),(7,yV (ao ((e.aq.getD i default).name == n)))]] [.ae [41,31,24,13,12,10,5,0,1,2,3,4,15,14] [1020,10,5]] [yR (↑i:Int),yO (i*4<(af a8 e.aq).length),yA a8 e.aq i 0,yI (fX ((e.aq.getD i default).name) n)]<|bj 41 ((e.aq.getD i default).name == n) (by simp_all)<|a_<|zP 1 [yH [(3,{k:=i}),(5,yV (db (e.aq.getD i default).name))]] [.ae [55,41,31,24,13,12,10,5,0,1,2,3,4,15,14] [1020,10,5]] ([yR (↑i:Int),yO (i*4<(af a8 e.aq).length),yA a8 e.aq i 0]++yM 4 (yB (Op.bytesLess (ByteArray.mk (e.aq.getD i default).name.toArray).toList (ByteArray.mk n.toArray).toList=true) (by assumption)))<|bj 55 ((↑a:Int) == (↑i:Int)) bE<|zK<|aM<|ak<|zX (yH [(1,yV (ai ((↑i:Int)+1)))]) [yN ((↑i:Int)+1)] (aJ (i+1,a) ⟨ah,by show a=_;rw [dP,ha],fun j hj=>by by_cases e2:j=i;(subst e2;exact cn);exact gf j ah⟩ ah (zW [.ae [24,13,12,10,5,0,1,2,3,4,15,14] [1020,10,5]]))
  ·rw [if_neg (fun q=>cl q.1)] at dP
   have Ww:Oi (e.aq.getD i default).name n=false:=by simpa using cl
   refine a_<|zS<|zB 1<|zS<|zP 1 [yH [(3,{k:=i}),(5,yV (db (e.aq.getD i default).name)),(7,yV (ao ((e.aq.getD i default).name == n)))]] [.ae [41,31,24,13,12,10,5,0,1,2,3,4,15,14] [1020,10,5]] [yR (↑i:Int),yO (i*4<(af a8 e.aq).length),yA a8 e.aq i 0,yI (fX ((e.aq.getD i default).name) n)]<|bj 41 ((e.aq.getD i default).name == n) (by simp_all)<|a_<|zP 1 [yH ([(3,{k:=i}),(5,yV (db (e.aq.getD i default).name)),(12,{b:=false})]++yg [9,10,11])] [.ae [55,41,31,24,13,12,10,5,0,1,2,3,4,15,14] [1020,10,5]] ([yR (↑i:Int),yO (i*4<(af a8 e.aq).length),yA a8 e.aq i 0]++yM 4 (yB (Op.bytesLess (ByteArray.mk (e.aq.getD i default).name.toArray).toList (ByteArray.mk n.toArray).toList=false) (by assumption)))<|zF 55<|zK<|aM<|ak<|zX (yH [(1,yV (ai ((↑i:Int)+1)))]) [yN ((↑i:Int)+1)] (aJ (i+1,a) ⟨ah,by show a=_;rw [dP,ha],fun j hj=>by by_cases e2:j=i;(subst e2;exact cn);exact gf j ah⟩ ah (zW [.ae [24,13,12,10,5,0,1,2,3,4,15,14] [1020,10,5]]))
 ·have ei:i=e.aq.length:=ah
  subst ei
  rw [List.take_length] at ha
  have hd:=Lq gf
  have hq:lL e n h leaf=wj h leaf:=by unfold lL;rw [if_neg (fun q=>q cb),if_neg (by rw [hd];decide)]
  by_cases cs:wj h leaf=0
  case neg =>
   have cf:BJ e n seed h leaf=zh:=if_neg (by rw [hq];exact cs)
   rw [cf,hq]
   refine zE 0<|a7<|aO<|bn<|ak<|zP 1 [yH [(4,yV (aw (de e))),(5,yV (AV.bq [AV.agg [ai (oV h leaf),AV.own 1 (aj (oy seed h leaf (de e))),AV.own 1 (aj (ox seed h leaf))],ai (wj h leaf)]))]] [.ae [13,16,31,24,12,10,5,0,1,2,3,4,15,14] [16,301064,201064,1020,10,5]] [yI KX,yI (rT seed h leaf (de e)),yB (lj (aj (oy seed h leaf (de e)))) (gm _),yB (lj (aj (ox seed h leaf))) (gm _),yL 3 3]<|zS<|zQ 1 [yH [(1,yV (ao true))]] [yB (ao (wj h leaf != (0:Int))=ao true) (by simp [cs])]<|zT 68<|zP 1 [{}] [.ae [11,68,13,16,31,24,12,10,5,0,1,2,3,4,15,14] [10,16,301064,201064,1020,5]] [yL 17 17]<|dk (bV)
  have cr:BJ e n seed h leaf=aT (tA e n seed h leaf):=if_pos (by rw [hq];exact cs)
  have cf:tA e n seed h leaf= {e with aq:=AG e.aq ⟨n,oV h leaf,oy seed h leaf (de e),ox seed h leaf⟩}:=if_neg (by rw [hq];exact fun q=>q cs)
  rw [cr,hq,cf,cs]
  have Sl:=Eb e.aq n
  have oP:cE (af a8 e.aq):=dD (fun x=>dJ rfl) _
  have s1:af a8 (e.aq.take a)++a8 ⟨n,oV h leaf,oy seed h leaf (de e),ox seed h leaf⟩=af a8 (e.aq.take a++ [⟨n,oV h leaf,oy seed h leaf (de e),ox seed h leaf⟩]):=fV _ _
  have s2:af a8 (e.aq.take a++ [⟨n,oV h leaf,oy seed h leaf (de e),ox seed h leaf⟩])++(af a8 e.aq).drop (a*4)=af a8 (AG e.aq ⟨n,oV h leaf,oy seed h leaf (de e),ox seed h leaf⟩):=by rw [oi (e:=4) (fun _=>rfl),fB];unfold AG;rw [ha]
  have s0:(af a8 e.aq).take (a*4)=af a8 (e.aq.take a):=oh (e:=4) (fun _=>rfl) _ _
  have PH:cE ((af a8 e.aq).take (a*4)):=fun x hx=>oP x (List.mem_of_mem_take hx)
  have Oo:cE ((af a8 e.aq).drop (a*4)):=fun x hx=>oP x (List.mem_of_mem_drop hx)
  refine zE 0<|a7<|aO<|bn<|ak<|zP 1 [yH [(4,yV (aw (de e))),(5,yV (AV.bq [AV.agg [ai (oV h leaf),AV.own 1 (aj (oy seed h leaf (de e))),AV.own 1 (aj (ox seed h leaf))],ai (wj h leaf)]))]] [.ae [13,16,31,24,12,10,5,0,1,2,3,4,15,14] [16,301064,201064,1020,10,5]] [yI KX,yI (rT seed h leaf (de e)),yB (lj (aj (oy seed h leaf (de e)))) (gm _),yB (lj (aj (ox seed h leaf))) (gm _),yL 3 3]<|zS<|zQ 1 [yH [(1,yV (ao false))]] [yB (ao (wj h leaf != (0:Int))=ao false) (by simp [cs])]<|zF 68<|a_<|bf.sv [.gN 201064,.gN 301064] bh<|zS<|y9 9 [4] [(3,{m:=a}),(4,{av:=some (AV.arr (af a8 (List.take a e.aq))),b:=false}),(9,yV (AV.arr (af a8 (List.take a e.aq++ [gk.mk n (oV h leaf) (oy seed h leaf (de e)) (ox seed h leaf)]))))] [yR (↑a:Int),yO (a*4≤(af a8 e.aq).length),yI s0,yI PH,yB ((0+(List.take (a*4) (af a8 e.aq)).length)*72≤562949953421312) (by simp only [List.length_take];omega),yR (db n),yR (AV.agg [ai (oV h leaf),AV.sl 1 (aj (oy seed h leaf (de e))),AV.sl 1 (aj (ox seed h leaf))]),yR (AV.agg [db n,ai (oV h leaf),AV.sl 1 (aj (oy seed h leaf (de e))),AV.sl 1 (aj (ox seed h leaf))]),yR (AV.sl 4 [db n,ai (oV h leaf),AV.sl 1 (aj (oy seed h leaf (de e))),AV.sl 1 (aj (ox seed h leaf))]),yI s1,yB (((af a8 (List.take a e.aq)).length+4)*72≤562949953421312) (by simp only [List.length_take,aF (f:=a8) (e:=4) (fun _=>rfl)];omega)]<|ak<|zP 2 [yH [(4,{k:=a}),(5,{av:=some (AV.arr (af a8 (AG e.aq (gk.mk n (oV h leaf) (oy seed h leaf (de e)) (ox seed h leaf))))),b:=false})],{}] [.ae [11,68,13,16,31,24,12,10,5,0,1,2,3,4,15,14] [10,5,86,16,1020]] [yR (↑a:Int),yO (a*4≤(af a8 e.aq).length),yI s2,yI Oo,yB (((af a8 (List.take a e.aq++ [gk.mk n (oV h leaf) (oy seed h leaf (de e)) (ox seed h leaf)])).length+(List.drop (a*4) (af a8 e.aq)).length)*72≤562949953421312) (by simp only [List.length_append,List.length_cons,List.length_nil,List.length_take,List.length_drop,aF (f:=a8) (e:=4) (fun _=>rfl)];omega),yL 17 17,yL 17 17]<|bf.sv [.gN 86] bh<|zR (bV)
def gV (l:List Int) (k:Nat) (n:Int):Nat:=if k<l.length then fG (l.getD k 0) n else 0
def dS (l:List Int) (k:Nat):Nat:=if k<l.length then k+1 else k
theorem KG (l:List Int):bK Tryz.prog 13 [.sl 1 (ax l)] (.box [.sl 1 (ax l),ai 0]):=by
 refine zO Tryz.func13 6<|zP 2 [{},{}] [.ae [2,0] [5]] []<|zR (bV)
theorem dE (l:List Int) (k:Nat) (n:Int) (hk:k≤l.length) (hl:l.length≤9223372036854775807) (h1:1≤n) (h2:n≤9223372036854775807):ga Tryz.prog 24 [.addr 1000000000000 0,ai n] [(1000000000000,⟨1,false,true,[.sl 1 (ax l),ai k]⟩)] (ai (gV l k n)) [(1000000000000,⟨1,false,true,[.sl 1 (ax l),ai (dS l k)]⟩)]:=by
 by_cases h:k<l.length
 ·have e1:gV l k n=fG (l.getD k 0) n:=if_pos h
  have e2:dS l k=k+1:=if_pos h
  have ew:IntKind.i64.wrap ((k:Int)+1)=((k+1:Nat):Int):=by rw [IntKind.wrap_i64];omega
  have ev:IntKind.i64.wrap (((k+1:Nat):Int)-1)=(k:Int):=by rw [IntKind.wrap_i64];omega
  rw [e1,e2]
  refine m5 Tryz.func24 35<|zq<|zS<|zP 1 [{hs:=[(8,{k:=l.length})],T:=9}] [.ae [14,4,0,1] [1000000000000]] [yI (km l)]<|dp 14 ((↑k:Int)≥(↑l.length:Int))<|a_<|zP 2 [yH [(4,yV (ai (↑(k+1):Int)))],{hs:=[(8,yV (ai ↑k)),(9,{k:=k}),(10,yV (ai (l.getD k (0:Int)))),(12,yV (ai (↑(fG (l.getD k (0:Int)) n):Int)))],T:=12}] [.ae [4,14,0,1] [1000000000000]] [yB (ai (IntKind.i64.wrap ((↑k:Int)+1))=ai (↑(k+1):Int)) (dG ah ah),yL 2 2,yI (yc ev),yR (↑k:Int),yB (k<(ax l).length) (by simp only [km];omega),yB ((ax l)[k]?=some (ai (l.getD k (0:Int)))) (lX ah),yI (sX (l.getD k (0:Int)) n h1 h2)]<|zR (zG [] [yR (Value.int .i64 (↑(fG (l.getD k (0:Int)) n):Int)),yR [AV.sl 1 (ax l),ai (↑(k+1):Int)]])
 ·have e1:gV l k n=0:=if_neg h
  have e2:dS l k=k:=if_neg h
  rw [e1,e2]
  refine m5 Tryz.func24 35<|zq<|zS<|zP 1 [{hs:=[(8,{k:=l.length})],T:=9}] [.ae [14,4,0,1] [1000000000000]] [yI (km l)]<|gT 14 ((↑k:Int)≥(↑l.length:Int))<|zq<|dk (zG [] [yR (Value.int .i64 0),yR [AV.sl 1 (ax l),ai ↑k]])
theorem dN {l:List Int} {k:Nat} (h:k≤l.length):dS l k≤l.length:=by unfold dS;split<;>omega
theorem lE (l:List Int) (k:Nat) {n:Int} (h:1≤n):(gV l k n:Int)<n:=by
 unfold gV
 split
 ·unfold fG
  have:=Int.emod_lt_of_pos (l.getD k 0%18446744073709551616) (ah:0<n)
  have:=Int.emod_nonneg (l.getD k 0%18446744073709551616) (ah:n≠0)
  omega
 ·omega
structure sQ where
 bP:gK
 log:List eF
 nx:Nat->Int
def kT (c:sQ):List AV:=[ai c.bP.aB,aw c.bP.head,ai c.bP.bt,.sl 4 (af aH c.bP.al),.sl 7 (af bc c.bP.aK),.sl 17 (af aT c.log),ai (c.nx 0),ai (c.nx 1),ai (c.nx 2),ai (c.nx 3),ai (c.nx 4),ai (c.nx 5),ai (c.nx 6),ai (c.nx 7),ai (c.nx 8),ai (c.nx 9)]
def xC (f:Nat->Int):List AV:=[ai (f 0),ai (f 1),ai (f 2),ai (f 3),ai (f 4),ai (f 5),ai (f 6),ai (f 7),ai (f 8),ai (f 9)]
def kZ:sQ:=⟨dd (dK 0),[],fun _=>0⟩
theorem Gq:bK Tryz.prog 15 [] (.agg (kT kZ)):=by
 have hm:=gr 0 ah
 have hn:=B3 (dK 0) (Nat.le_of_ble_eq_true rfl)
 unfold kZ
 generalize dd (dK 0)=G at *
 refine zO Tryz.func15 10<|zP 3 [{},yH [(0,yV (AV.agg (aH (dK 0)))),(1,{av:=some (AV.bq [AV.agg [ai G.aB,aw G.head,ai G.bt,AV.sl 4 (af aH G.al),AV.own 7 (af bc G.aK)],ai (iF (dK 0))]),b:=false})],{}] [.ae [1,0] [0,1,501005]] [yI hm,yI hn,yL 5 5,yL 16 16]<|bf.sv [.gN 501005] bh<|bf.oR (bS.MR 0 [(5,17)] bh)<|zR (zV ([yR (Value.int .i64 G.aB),yR (Value.int .u64 (wv G.head)),yR (Value.int .i64 G.bt),yR (af aH G.al),yR (af bc G.aK),yB ([]=af aT []) rfl]++yM 10 (yR (Value.int .i64 0))))
theorem Fz (l:List Int) (k:Nat) (hk:k≤l.length) (hl:l.length≤9223372036854775807):ga Tryz.prog 28 [.addr 1000000000000 0] [(1000000000000,⟨1,false,true,[.sl 1 (ax l),ai k]⟩)] (ao (decide (k<l.length))) [(1000000000000,⟨1,false,true,[.sl 1 (ax l),ai k]⟩)]:=by
 refine m5 Tryz.func28 13<|zP 2 [{},{hs:=[(8,{k:=l.length})],T:=9}] [.ae [2,0] [1000000000000]] [yI (km l)]<|zR (zG [] [yB (Value.bool (decide ((↑k:Int)<(↑l.length:Int)))=Value.bool (decide (k<l.length))) (by simp),yR [AV.sl 1 (ax l),ai ↑k]])
def O4 (c:sQ) (j:Nat) (m:Nat):Prop:=(c.bP.al.getD m default).name=(dK j).name∧c.nx j<16
instance (c:sQ) (j m:Nat):Decidable (O4 c j m):=inferInstanceAs (Decidable (_∧_))
def ns (c:sQ) (j:Nat) (s:Nat×Nat):Nat->Nat×Nat
 | 0=>s
 | m+1=>if O4 c j m then ((ns c j s m).1|||2^j,(ns c j s m).2+1) else ns c j s m
def kX (c:sQ) (k:Nat):Nat->Nat×Nat
 | 0=>(0,0)
 | i+1=>if ((kX c k i).2:Int)<c.bP.bt then ns c (fG ((i:Int)+k) 10) (kX c k i) c.bP.al.length else kX c k i
def vC (c:sQ) (k:Nat):Nat:=(kX c k 10).1
theorem O9 (f:Nat->Int) {j:Nat} (h:j<10):(xC f)[j]?=some (ai (f j)):=by
 rcases j with _|_|_|_|_|_|_|_|_|_|j<;>first|rfl|omega
theorem B_ (c:sQ) {j:Nat} (hj:j<10) {s:Nat×Nat} (hs:s.1<1024):∀m,(ns c j s m).1<1024∧(ns c j s m).2≤s.2+m
 | 0=>⟨hs,Nat.le_refl _⟩
 | m+1=>by
  have ih:=B_ c hj hs m
  unfold ns
  split
  ·refine ⟨Nat.or_lt_two_pow (n:=10) ih.1 (Nat.pow_lt_pow_right (by decide) hj),?_⟩
   show _+1≤_
   omega
  ·exact ⟨ih.1,ah⟩
theorem xz (c:sQ) (k:Nat):∀i,(kX c k i).1<1024∧(kX c k i).2≤i*c.bP.al.length
 | 0=>⟨Nat.zero_lt_succ _,Nat.zero_le _⟩
 | i+1=>by
  have ih:=xz c k i
  unfold kX
  split
  ·have hj:=sY ((i:Int)+k) (n:=10) ah
   have:=B_ c (j:=fG ((i:Int)+k) 10) ah ih.1 c.bP.al.length
   refine ⟨this.1,Nat.le_trans this.2 ?_⟩
   rw [Nat.succ_mul];omega
  ·refine ⟨ih.1,Nat.le_trans ih.2 ?_⟩
   rw [Nat.succ_mul];omega
theorem wy (c:sQ) (k:Nat) {i:Nat} (h:¬((kX c k i).2:Int)<c.bP.bt):∀d,kX c k (i+d)=kX c k i
 | 0=>rfl
 | d+1=>by
  have ih:=wy c k h d
  show (if ((kX c k (i+d)).2:Int)<c.bP.bt then _ else kX c k (i+d))=_
  rw [ih,if_neg h]
theorem NP (c:sQ) {j:Nat} (h:j<10):(kT c)[j+6]?=some (ai (c.nx j)):=by
 rcases j with _|_|_|_|_|_|_|_|_|_|j<;>first|rfl|omega
theorem MF {j:Nat} (h:j<10):IntKind.i64.wrap (1*2^min ((j:Nat):Int).toNat IntKind.i64.bits)=((2^j:Nat):Int):=by
 have key:∀j:Fin 10,IntKind.i64.wrap (1*2^min ((j.val:Nat):Int).toNat IntKind.i64.bits)=((2^j.val:Nat):Int):=by decide
 exact key ⟨j,h⟩
theorem MO {a b:Nat} (ha:a<1024) (hb:b<1024):IntKind.i64.wrap ((BitVec.ofInt IntKind.i64.bits (a:Int)|||BitVec.ofInt IntKind.i64.bits (b:Int)).toNat:Nat)=((a|||b:Nat):Int):=by
 have dh:=Nat.or_lt_two_pow (n:=10) (x:=a) (y:=b) ha hb
 rw [BitVec.toNat_or,BitVec.toNat_ofInt,BitVec.toNat_ofInt,show ((a:Int)%((2^IntKind.i64.bits:Nat):Int)).toNat=a by show ((a:Int)%18446744073709551616).toNat=a;omega,show ((b:Int)%((2^IntKind.i64.bits:Nat):Int)).toNat=b by show ((b:Int)%18446744073709551616).toNat=b;omega,IntKind.wrap_i64]
 omega
theorem B9 (c:sQ) (k:Nat) (hk:k<10) (hm:c.bP.al.length≤8):bK Tryz.prog 29 [.agg (kT c),ai k] (ai (vC c k)):=by
 have mb:(af aH c.bP.al).length=c.bP.al.length*4:=aF (e:=4) (fun _=>rfl) ..
 refine zO Tryz.func29 59<|zQ 2 [{},{}] []<|zS<|zq<|zB 0 (zL (fun (i:Nat)=>(⟨[(4,ai 0),(2,AV.addr 2 0),(0,AV.agg [ai c.bP.aB,aw c.bP.head,ai c.bP.bt,AV.sl 4 (af aH c.bP.al),AV.sl 7 (af bc c.bP.aK),AV.sl 17 (af aT c.log),ai (c.nx 0),ai (c.nx 1),ai (c.nx 2),ai (c.nx 3),ai (c.nx 4),ai (c.nx 5),ai (c.nx 6),ai (c.nx 7),ai (c.nx 8),ai (c.nx 9)]),(1,ai ↑k),(7,ai i),(5,ai (kX c k i).1),(6,ai (kX c k i).2)],[(2,⟨1,false,true,List.map (aD 2) (kT c)⟩)]⟩:AS)) (fun i=>(i≤10)) (fun i=>(10-i)) (0) ?_ (zW [.ae [4,2,0,1,7,5,6] [2]]) ?_)
 ·omega
 intro i hi
 have hb:=xz c k i
 have rj:i*c.bP.al.length≤80:=Nat.mul_le_mul hi hm
 by_cases c1:i<10
 case neg =>
  have e:i=10:=ah
  subst e
  refine zS<|zP 1 [yH ([(8,{b:=false})]++yg [3,4,5,6,7])] [.ae [18,4,2,0,1,7,5,6] [2]] (yM 6 (yR false))<|zF 18<|zE 0<|a7<|aO<|bn<|ak<|zP 1 [{}] [.ae [4,18,2,0,1,7,5,6] [2]] []<|zR (bV)
 by_cases c2:((kX c k i).2:Int)<c.bP.bt
 case neg =>
  have hs:=wy c k c2 (10-i)
  rw [show i+(10-i)=10 by omega] at hs
  refine zS<|zP 1 [{}] [.ae [18,4,2,0,1,7,5,6] [2]] (yM 6 (yT ((↑i:Int)<10)))<|dp 18 ((↑(kX c k i).snd:Int)<c.bP.bt)<|zE 0<|a7<|aO<|bn<|ak<|zq<|zR (zV [yJ (↑(kX c k i).fst:Int) (↑(vC c k):Int) (by unfold vC;rw [hs])])
 obtain ⟨j,hj⟩:∃j,j=fG ((i:Int)+k) 10:=⟨_,rfl⟩
 have Cz:j<10:=by have:=sY ((i:Int)+k) (n:=10) ah;omega
 have dP:kX c k (i+1)=ns c j (kX c k i) c.bP.al.length:=by show (if _ then _ else _)=_;rw [if_pos c2,←hj]
 have L3:=NP c Cz
 have zd:=gr j Cz
 have Ry:IntKind.u64.wrap ((j:Nat):Int)=(j:Int):=by rw [IntKind.wrap_u64];omega
 have Vh:=fun m=>B_ c Cz hb.1 m
 generalize lH:kX c k i=s at *
 refine zS<|zP 1 [{}] [.ae [18,4,2,0,1,7,5,6] [2]] (yM 6 (yT ((↑i:Int)<10)))<|gT 18 ((↑s.snd:Int)<c.bP.bt)<|a_<|zS<|zB 1<|zP 2 [yH [(2,yV (ai ((↑i:Int)+(↑k:Int)))),(3,yV (ai (↑(fG ((↑i:Int)+(↑k:Int)) (10:Int)):Int))),(4,yV (ai ↑j))],{}] [.ae [9,8,18,4,2,0,1,7,5,6] [2]] [yN ((↑i:Int)+(↑k:Int)),yI (sX ((↑i:Int)+(↑k:Int)) ((10:Int)) ah ah),yB (ai (↑(fG ((↑i:Int)+(↑k:Int)) (10:Int)):Int)=ai ↑j) (by rw [hj])]<|zB 2 (zL (fun (m:Nat)=>(⟨[(8,ai ↑j),(18,ao (decide ((↑s.snd:Int)<c.bP.bt))),(4,ai 0),(2,AV.addr 2 0),(0,AV.agg [ai c.bP.aB,aw c.bP.head,ai c.bP.bt,AV.sl 4 (af aH c.bP.al),AV.sl 7 (af bc c.bP.aK),AV.sl 17 (af aT c.log),ai (c.nx 0),ai (c.nx 1),ai (c.nx 2),ai (c.nx 3),ai (c.nx 4),ai (c.nx 5),ai (c.nx 6),ai (c.nx 7),ai (c.nx 8),ai (c.nx 9)]),(1,ai ↑k),(7,ai ↑i),(9,ai m),(5,ai (ns c j s m).1),(6,ai (ns c j s m).2)],[(2,⟨1,false,true,kT c⟩)]⟩:AS)) (fun m=>(m≤c.bP.al.length)) (fun m=>(c.bP.al.length-m)) (0) ?_ (zW [.ae [8,18,4,2,0,1,7,9,5,6] [2]]) ?_)
 ·omega
 intro m Iq
 have Vg:=Vh m
 refine zS<|zP 1 [yH [(4,{k:=c.bP.al.length})]] [.ae [30,8,18,4,2,0,1,7,9,5,6] [2]] [yI mb] (zD 30 ((↑m:Int)<(↑c.bP.al.length:Int)) (fun q=>?_) (fun q=>?_))
 ·have RW:m<c.bP.al.length:=ah
  have gh:=mu RW
  by_cases cn:(c.bP.al.getD m default).name=(dK j).name
  case neg =>
   have h1:ns c j s (m+1)=ns c j s m:=if_neg (fun q=>cn q.1)
   refine a_<|zS<|zB 3<|zP 1 [{hs:=[(4,{k:=m}),(6,yV (db (c.bP.al.getD m default).name)),(8,yV (AV.agg (aH (dK j)))),(10,yV (ao ((c.bP.al.getD m default).name == (dK j).name))),(12,{g:=false}),(13,{g:=false}),(14,{g:=false}),(15,{g:=false}),(16,{g:=false}),(17,{b:=false})],T:=14}] [.ae [50,30,8,18,4,2,0,1,7,9,5,6] [2]] ([yR (↑m:Int),yO (m*4<(af aH c.bP.al).length),yA aH c.bP.al m 0,yI zd,yI (fX ((c.bP.al.getD m default).name) ((dK j).name))]++yM 6 (yS (((c.bP.al.getD m default).name == (dK j).name)=false)))<|zF 50<|zK<|aM<|ak<|zX (yH [(1,yV (ai ((↑m:Int)+1)))]) [yN ((↑m:Int)+1)] (aJ (m+1) (by assumption) ah (eK [.ae [8,18,4,2,0,1,7,9,5,6] [2]] [5,6] [] [yB (ai (↑(ns c j s m).fst:Int)=ai (↑(ns c j s (m+1)).fst:Int)) (by rw [h1]),yB (ai (↑(ns c j s m).snd:Int)=ai (↑(ns c j s (m+1)).snd:Int)) (by rw [h1])]))
  by_cases cx:c.nx j<16
  case neg =>
   have h1:ns c j s (m+1)=ns c j s m:=if_neg (fun q=>cx q.2)
   refine a_<|zS<|zB 3<|zP 1 [{hs:=[(4,{k:=m}),(6,yV (db (c.bP.al.getD m default).name)),(8,yV (AV.agg (aH (dK j)))),(10,yV (ao ((c.bP.al.getD m default).name == (dK j).name))),(14,{k:=j}),(15,yV (ai (c.nx j)))],T:=14}] [.ae [50,30,8,18,4,2,0,1,7,9,5,6] [2]] ([yR (↑m:Int),yO (m*4<(af aH c.bP.al).length),yA aH c.bP.al m 0,yI zd,yI (fX ((c.bP.al.getD m default).name) ((dK j).name))]++yM 3 (yS (((c.bP.al.getD m default).name == (dK j).name)=true))++ [yR (↑j:Int),yI Cz,yS (((c.bP.al.getD m default).name == (dK j).name)=true),yI L3]++yM 2 (yS (((c.bP.al.getD m default).name == (dK j).name)=true)))<|dp 50 (c.nx j<16)<|zK<|aM<|ak<|zX (yH [(1,yV (ai ((↑m:Int)+1)))]) [yN ((↑m:Int)+1)] (aJ (m+1) (by assumption) ah (eK [.ae [8,18,4,2,0,1,7,9,5,6] [2]] [5,6] [] [yB (ai (↑(ns c j s m).fst:Int)=ai (↑(ns c j s (m+1)).fst:Int)) (by rw [h1]),yB (ai (↑(ns c j s m).snd:Int)=ai (↑(ns c j s (m+1)).snd:Int)) (by rw [h1])]))
  have h1:ns c j s (m+1)=((ns c j s m).1|||2^j,(ns c j s m).2+1):=if_pos ⟨cn,cx⟩
  have Cu:=MF Cz
  have s5:=MO (a:=(ns c j s m).1) (b:=2^j) ah (by have:=Nat.pow_lt_pow_right (a:=2) (by decide) Cz;omega)
  refine a_<|zS<|zB 3<|zP 1 [{hs:=[(4,{k:=m}),(6,yV (db (c.bP.al.getD m default).name)),(8,yV (AV.agg (aH (dK j)))),(10,yV (ao ((c.bP.al.getD m default).name == (dK j).name))),(14,{k:=j}),(15,yV (ai (c.nx j)))],T:=14}] [.ae [50,30,8,18,4,2,0,1,7,9,5,6] [2]] ([yR (↑m:Int),yO (m*4<(af aH c.bP.al).length),yA aH c.bP.al m 0,yI zd,yI (fX ((c.bP.al.getD m default).name) ((dK j).name))]++yM 3 (yS (((c.bP.al.getD m default).name == (dK j).name)=true))++ [yR (↑j:Int),yI Cz,yS (((c.bP.al.getD m default).name == (dK j).name)=true),yI L3]++yM 2 (yS (((c.bP.al.getD m default).name == (dK j).name)=true)))<|gT 50 (c.nx j<16)<|zP 1 [yH [(2,yV (AV.val (Value.int .u64 (↑j:Int)))),(3,yV (ai (↑((2:Nat)^j):Int))),(4,yV (ai (↑((ns c j s m).fst|||(2:Nat)^j):Int)))]] [.ae [5,50,30,8,18,4,2,0,1,7,9,6] [2]] [yI (yd Ry),yI (yc Cu),yO ((0:Int)≤(↑j:Int)),yI (yc s5)]<|zX (yH [(1,yV (ai ((↑(ns c j s m).snd:Int)+1)))]) [yN ((↑(ns c j s m).snd:Int)+1)]<|aM<|ak<|zX (yH [(1,yV (ai ((↑m:Int)+1)))]) [yN ((↑m:Int)+1)] (aJ (m+1) (by assumption) ah (eK [.ae [8,18,4,2,0,1,7,9,5,6] [2]] [5,6] [] [yB (ai (↑((ns c j s m).fst|||(2:Nat)^j):Int)=ai (↑(ns c j s (m+1)).fst:Int)) (by rw [h1]),yB (ai ((↑(ns c j s m).snd:Int)+1)=ai (↑(ns c j s (m+1)).snd:Int)) (by rw [h1];rfl)]))
 ·have em:m=c.bP.al.length:=ah
  subst em
  refine zE 2<|a7<|aO<|bn<|aM<|ak<|zX (yH [(1,yV (ai ((↑i:Int)+1)))]) [yN ((↑i:Int)+1)] (aJ (i+1) (by assumption) ah (eK [.ae [4,2,0,1,7,5,6] [2]] [5,6] [] [yB (ai (↑(ns c j s c.bP.al.length).fst:Int)=ai (↑(kX c k (i+1)).fst:Int)) (by rw [dP]),yB (ai (↑(ns c j s c.bP.al.length).snd:Int)=ai (↑(kX c k (i+1)).snd:Int)) (by rw [dP])]))
def GY (f:Nat->Int) (i:Nat) (v:Int):Nat->Int:=fun j=>if j=i then v else f j
def bH (e:eF) (nx:Nat->Int) (dQ:Nat):Nat->eF×(Nat->Int)
 | 0=>(e,nx)
 | i+1=>if dQ.testBit i=true∧lL (bH e nx dQ i).1 (dK i).name 4 ((bH e nx dQ i).2 i)=0 then (tA (bH e nx dQ i).1 (dK i).name (300+u64 i) 4 ((bH e nx dQ i).2 i),GY (bH e nx dQ i).2 i ((bH e nx dQ i).2 i+1)) else bH e nx dQ i
theorem MP (f:Nat->Int) {i:Nat} (h:i<10) (v:Int):(xC f).set i (ai v)=xC (GY f i v):=by
 rcases i with _|_|_|_|_|_|_|_|_|_|i<;>first|rfl|omega
theorem H6 (l:List gk) (v:gk):(AG l v).length=l.length+1:=by
 have:=Eb l v.name
 unfold AG
 simp only [List.length_append,List.length_take,List.length_drop,List.length_cons,List.length_nil]
 omega
theorem Mw {e:eF} (hB:mN e) {n:List UInt8} {seed:UInt64} {h leaf:Int} (hq:lL e n h leaf=0):mN (tA e n seed h leaf)∧(tA e n seed h leaf).aq.length=e.aq.length+1:=by
 have cf:tA e n seed h leaf= {e with aq:=AG e.aq ⟨n,oV h leaf,oy seed h leaf (de e),ox seed h leaf⟩}:=if_neg (fun q=>q hq)
 rw [cf]
 exact ⟨⟨hB.Pa,hB.dep⟩,H6 _ _⟩
theorem xh {e:eF} (hB:mN e) (nx:Nat->Int) (dQ:Nat):∀i,mN (bH e nx dQ i).1∧(bH e nx dQ i).1.aq.length≤e.aq.length+i
 | 0=>⟨hB,Nat.le_refl _⟩
 | i+1=>by
  obtain ⟨h1,h2⟩:=xh hB nx dQ i
  unfold bH
  split
  ·rename_i q
   obtain ⟨h3,h4⟩:=Mw (seed:=300+u64 i) h1 q.2
   exact ⟨h3,by show (tA _ _ _ _ _).aq.length≤_;omega⟩
  ·exact ⟨h1,ah⟩
theorem GO {e:eF} {n:List UInt8} {leaf:Int} (h:lL e n 4 leaf=0):0≤leaf∧leaf<16:=by
 have hs:wj 4 leaf=0:=by
  unfold lL at h
  split at h
  ·rename_i q;exact absurd h q
  split at h
  ·omega
  ·exact h
 have nb:¬i6 4 leaf:=by
  intro q;unfold wj at hs;rw [if_pos q] at hs;omega
 unfold i6 at nb
 have:(2:Nat)^(4:Int).toNat=16:=rfl
 omega
theorem MA {w i:Nat} (hw:w<1024) (hi:i<10):IntKind.i64.wrap ((BitVec.ofInt IntKind.i64.bits ((w/2^i:Nat):Int)&&&BitVec.ofInt IntKind.i64.bits 1).toNat:Nat)=if w.testBit i=true then 1 else 0:=by
 rw [BitVec.toNat_and,BitVec.toNat_ofInt,BitVec.toNat_ofInt,show ((1:Int)%((2^IntKind.i64.bits:Nat):Int)).toNat=1 by rfl]
 have hq:w/2^i<1024:=Nat.lt_of_le_of_lt (Nat.div_le_self _ _) hw
 rw [Nat.testBit_eq_decide_div_mod_eq]
 generalize w/2^i=q at *
 rw [show (((q:Nat):Int)%((2^IntKind.i64.bits:Nat):Int)).toNat=q by show (((q:Nat):Int)%18446744073709551616).toNat=_;omega]
 rw [Nat.and_one_is_mod]
 have:q%2<2:=Nat.mod_lt _ (by decide)
 by_cases c:q%2=1
 ·rw [c];decide
 ·rw [show q%2=0 by omega];decide
theorem Kk (w:Nat) {i:Nat} (hi:i<10):((w:Nat):Int).fdiv (2^min ((i:Nat):Int).toNat IntKind.i64.bits)=((w/2^i:Nat):Int):=by
 rw [show min ((i:Nat):Int).toNat IntKind.i64.bits=i from Nat.min_eq_left (by show i≤64;omega),Int.fdiv_eq_ediv_of_nonneg _ (Int.pow_nonneg (by decide))]
 push_cast
 rfl
theorem BR (m9:∀e,mN e->bK Tryz.prog 40 [.agg (aT e)] (.bq [.own 1 (ag (fA e)),ai (eu e)])) (c:sQ) (e:eF) (dQ:Nat) (hw:dQ<1024) (hB:mN e) (hv:e.aq.length≤900000):bK Tryz.prog 22 [.agg (kT c),.agg (aT e),ai dQ] (.bq [.agg (aT (bH e c.nx dQ 10).1),.arr (xC (bH e c.nx dQ 10).2)]):=by
 refine zO Tryz.func22 48<|zP 2 [yH [(3,yV (AV.arr (ax (List.replicate 10 (0:Int)))))],yH [(1,yV (AV.agg [ai (c.nx 0),ai (c.nx 1),ai (c.nx 2),ai (c.nx 3),ai (c.nx 4),ai (c.nx 5),ai (c.nx 6),ai (c.nx 7),ai (c.nx 8),ai (c.nx 9)])),(2,yV (AV.arr (ax (List.replicate 10 (0:Int)))))]] [.ae [8,7,6,4,3,0,1,2] [8,7,6,4,3]] [yR (ax (List.replicate 10 (0:Int))),yR (List.take 10 (List.drop 6 (List.map (aD 7) (List.map (aD 6) (List.map (aD 4) (List.map (aD 3) (kT c))))))),yR 10,yR (ax (List.replicate 10 (0:Int))),yL 10 10]<|zS<|zq<|zB 0 (zL (fun (i:Nat)=>(⟨[(8,AV.addr 8 0),(7,AV.addr 7 0),(6,AV.addr 6 0),(4,AV.addr 4 0),(3,AV.addr 3 0),(0,AV.agg [ai c.bP.aB,aw c.bP.head,ai c.bP.bt,AV.sl 4 (af aH c.bP.al),AV.sl 7 (af bc c.bP.aK),AV.sl 17 (af aT c.log),ai (c.nx 0),ai (c.nx 1),ai (c.nx 2),ai (c.nx 3),ai (c.nx 4),ai (c.nx 5),ai (c.nx 6),ai (c.nx 7),ai (c.nx 8),ai (c.nx 9)]),(1,AV.agg (aT e)),(2,ai ↑dQ),(9,ai i)],[(7,⟨1,true,true,ax (List.replicate 10 (0:Int))⟩),(6,⟨1,false,true,[ai 0,cO,ai 0,AV.val (Value.string (ByteArray.mk #[])),ai 0,cO,ai 0,cO,cO,AV.nil,AV.nil,AV.nil,ai 0,cO,cO,cO,AV.nil]⟩),(3,⟨1,false,true,List.map (aD 8) (List.map (aD 7) (List.map (aD 6) (List.map (aD 4) (List.map (aD 3) (kT c)))))⟩),(4,⟨1,false,true,aT (bH e c.nx dQ i).1⟩),(8,⟨1,true,true,xC (bH e c.nx dQ i).2⟩)]⟩:AS)) (fun i=>(i≤10)) (fun i=>(10-i)) (0) ?_ (zW [.ae [8,7,6,4,3,0,1,2,9] [7,6,3,4,8]]) ?_)
 ·omega
 intro i hi
 obtain ⟨b1,b2⟩:=xh hB c.nx dQ i
 refine zS<|bf.i9 1 [{}] bh (s':=AS.mk [(15,ao (decide ((↑i:Int)<10))),(14,ai ↑i),(8,AV.addr 8 0),(7,AV.addr 7 0),(6,AV.addr 6 0),(4,AV.addr 4 0),(3,AV.addr 3 0),(0,AV.agg [ai c.bP.aB,aw c.bP.head,ai c.bP.bt,AV.sl 4 (af aH c.bP.al),AV.sl 7 (af bc c.bP.aK),AV.sl 17 (af aT c.log),ai (c.nx 0),ai (c.nx 1),ai (c.nx 2),ai (c.nx 3),ai (c.nx 4),ai (c.nx 5),ai (c.nx 6),ai (c.nx 7),ai (c.nx 8),ai (c.nx 9)]),(1,AV.agg (aT e)),(2,ai ↑dQ),(9,ai ↑i)] [(7,Row.mk 1 true true (ax (List.replicate 10 (0:Int)))),(6,Row.mk 1 false true [ai 0,cO,ai 0,AV.val (Value.string (ByteArray.mk #[])),ai 0,cO,ai 0,cO,cO,AV.nil,AV.nil,AV.nil,ai 0,cO,cO,cO,AV.nil]),(3,Row.mk 1 false true (List.map (aD 8) (List.map (aD 7) (List.map (aD 6) (List.map (aD 4) (List.map (aD 3) (kT c))))))),(4,Row.mk 1 false true (aT (bH e c.nx dQ i).fst)),(8,Row.mk 1 true true (xC (bH e c.nx dQ i).snd))]) (C:=[]) bh trivial (zD 15 ((↑i:Int)<10) (fun q=>?_) (fun q=>?_))
 ·have dz:i<10:=ah
  have P8:=m9 _ b1
  have zd:=gr i dz
  have BE:=Ae (bH e c.nx dQ i).1 (dK i).name (300+u64 i) 4 ((bH e c.nx dQ i).2 i) ah P8
  have L3:=O9 (bH e c.nx dQ i).2 dz
  have Uu:=MP (bH e c.nx dQ i).2 dz ((bH e c.nx dQ i).2 i+1)
  have MW:IntKind.u64.wrap ((i:Nat):Int)=(i:Int):=by rw [IntKind.wrap_u64];omega
  have FG:=Kk dQ dz
  have Pr:=MA hw dz
  have dP:bH e c.nx dQ (i+1)=if dQ.testBit i=true∧lL (bH e c.nx dQ i).1 (dK i).name 4 ((bH e c.nx dQ i).2 i)=0 then (tA (bH e c.nx dQ i).1 (dK i).name (300+u64 i) 4 ((bH e c.nx dQ i).2 i),GY (bH e c.nx dQ i).2 i ((bH e c.nx dQ i).2 i+1)) else bH e c.nx dQ i:=rfl
  generalize bH e c.nx dQ i=S at *
  clear m9 P8
  by_cases tb:dQ.testBit i=true
  case neg =>
   rw [if_neg tb] at Pr
   rw [if_neg (fun q=>tb q.1)] at dP
   refine a_<|zS<|zB 1<|zS<|zP 1 [yH [(2,yV (AV.val (Value.int .u64 (↑i:Int)))),(3,yV (ai (↑(dQ/(2:Nat)^i):Int))),(4,yV (ai 0))]] [.ae [23,15,8,7,6,4,3,0,1,2,9] [7,6,3,4,8]] [yI (yd MW),yI (yc FG),yO ((0:Int)≤(↑i:Int)),yI (yc Pr)]<|du 23 ((0:Int) == (0:Int)) fb<|zE 1<|a7<|bn<|ak<|zX (yH [(1,yV (ai ((↑i:Int)+1)))]) [yN ((↑i:Int)+1)] (aJ (i+1) (by assumption) ah (eK [.ae [8,7,6,4,3,0,1,2,9] [7,6,3,4,8]] [] [4,8] [yB (aT S.fst=aT (bH e c.nx dQ (i+1)).fst) (by rw [dP]),yB (xC S.snd=xC (bH e c.nx dQ (i+1)).snd) (by rw [dP])]))
  rw [if_pos tb] at Pr
  by_cases cq:lL S.1 (dK i).name 4 (S.2 i)=0
  case neg =>
   rw [if_neg (fun q=>cq q.2)] at dP
   have Rz:BJ S.1 (dK i).name (300+u64 i) 4 (S.2 i)=zh:=if_neg cq
   rw [Rz] at BE
   refine a_<|zS<|zB 1<|zS<|zP 1 [yH [(2,yV (AV.val (Value.int .u64 (↑i:Int)))),(3,yV (ai (↑(dQ/(2:Nat)^i):Int))),(4,yV (ai 1)),(5,yV (ao false))]] [.ae [23,15,8,7,6,4,3,0,1,2,9] [7,6,3,4,8]] [yI (yd MW),yI (yc FG),yB ((0:Int)≤(↑i:Int)) (by simp [cq]),yI (yc Pr),yR (ao false)]<|zF 23<|a_<|zS<|y9 16 [14,15] [(2,yV (AV.agg (aH (dK i)))),(5,yV (aw (u64 (↑i:Int)))),(6,yV (aw (300+u64 (↑i:Int)))),(8,{k:=i}),(9,yV (ai (S.snd i))),(10,yV (AV.bq [AV.agg [ai 0,aw 0,ai 0,AV.val (Value.string (ByteArray.mk #[])),ai 0,aw 0,ai 0,aw 0,aw 0,AV.nil,AV.nil,AV.nil,ai 0,aw 0,aw 0,aw 0,AV.nil],ai (lL S.fst (dK i).name (4:Int) (S.snd i))]))] ([yI zd,yI (a6 ((↑i:Int))),yR (aw (300+u64 (↑i:Int))),yR (↑i:Int),yI dz,yI L3,yI BE,yR (AV.agg (aT S.fst)),yR (ai ↑i),yR (AV.agg (aH (dK i))),yI zd,yR (db (dK i).name),yR (ai ↑i),yR (aw (u64 (↑i:Int))),yI (a6 ((↑i:Int)))]++yM 2 (yR (aw (300+u64 (↑i:Int))))++ [yR (ai ↑i),yR (AV.addr 8 i),yR (↑i:Int),yI dz,yR (ai (S.snd i)),yI L3,yR (AV.bq [AV.agg [ai 0,aw 0,ai 0,AV.val (Value.string (ByteArray.mk #[])),ai 0,aw 0,ai 0,aw 0,aw 0,AV.nil,AV.nil,AV.nil,ai 0,aw 0,aw 0,aw 0,AV.nil],ai (lL S.fst (dK i).name (4:Int) (S.snd i))]),yI BE,yR (AV.bq [AV.agg [ai 0,aw 0,ai 0,AV.val (Value.string (ByteArray.mk #[])),ai 0,aw 0,ai 0,aw 0,aw 0,AV.nil,AV.nil,AV.nil,ai 0,aw 0,aw 0,aw 0,AV.nil],ai (lL S.fst (dK i).name (4:Int) (S.snd i))]),yR (AV.agg [ai 0,aw 0,ai 0,AV.val (Value.string (ByteArray.mk #[])),ai 0,aw 0,ai 0,aw 0,aw 0,AV.nil,AV.nil,AV.nil,ai 0,aw 0,aw 0,aw 0,AV.nil]),yR (ai (lL S.fst (dK i).name (4:Int) (S.snd i))),yL 17 17,yR (ai (lL S.fst (dK i).name (4:Int) (S.snd i)))])<|ak<|bf.sv [.ae [11,32,10,23,15,8,7,6,4,3,0,1,2,9] [10,7,6,3,4,8]] bh<|zP 1 [yH [(1,yV (ao false))]] [.ae [39,11,32,10,23,15,8,7,6,4,3,0,1,2,9] [10,7,6,3,4,8]] [yB (ao (lL S.fst (dK i).name (4:Int) (S.snd i) == (0:Int))=ao false) (by simp [cq])]<|zF 39<|zK<|aM<|ak<|zX (yH [(1,yV (ai ((↑i:Int)+1)))]) [yN ((↑i:Int)+1)] (aJ (i+1) (by assumption) ah (eK [.ae [8,7,6,4,3,0,1,2,9] [7,6,3,4,8]] [] [4,8] [yB (List.map (aD 10) (List.map (aD 10) (aT S.fst))=aT (bH e c.nx dQ (i+1)).fst) (by rw [dP];rfl),yB (xC S.snd=xC (bH e c.nx dQ (i+1)).snd) (by rw [dP])]))
  rw [if_pos ⟨tb,cq⟩] at dP
  have hl:=GO cq
  have Rz:BJ S.1 (dK i).name (300+u64 i) 4 (S.2 i)=aT (tA S.1 (dK i).name (300+u64 i) 4 (S.2 i)):=if_pos cq
  rw [Rz,cq] at BE
  have Uq:IntKind.i64.wrap (S.2 i+1)=S.2 i+1:=by rw [IntKind.wrap_i64];omega
  generalize tA S.1 (dK i).name (300+u64 i) 4 (S.2 i)=F at *
  refine a_<|zS<|zB 1<|zS<|zP 1 [yH [(2,yV (AV.val (Value.int .u64 (↑i:Int)))),(3,yV (ai (↑(dQ/(2:Nat)^i):Int))),(4,yV (ai 1))]] [.ae [23,15,8,7,6,4,3,0,1,2,9] [7,6,3,4,8]] [yI (yd MW),yI (yc FG),yO ((0:Int)≤(↑i:Int)),yI (yc Pr)]<|bj 23 ((1:Int) == (0:Int)) bE<|a_<|zS<|y9 16 [14,15] [(2,yV (AV.agg (aH (dK i)))),(5,yV (aw (u64 (↑i:Int)))),(6,yV (aw (300+u64 (↑i:Int)))),(8,{k:=i}),(9,yV (ai (S.snd i))),(10,{av:=some (AV.bq [AV.agg (aT F),ai 0]),b:=false})] ([yI zd,yI (a6 ((↑i:Int))),yR (aw (300+u64 (↑i:Int))),yR (↑i:Int),yI dz,yI L3,yI BE,yR (AV.agg (aT S.fst)),yR (ai ↑i),yR (AV.agg (aH (dK i))),yI zd,yR (db (dK i).name),yR (ai ↑i),yR (aw (u64 (↑i:Int))),yI (a6 ((↑i:Int)))]++yM 2 (yR (aw (300+u64 (↑i:Int))))++ [yR (ai ↑i),yR (AV.addr 8 i),yR (↑i:Int),yI dz,yR (ai (S.snd i)),yI L3,yR (AV.bq [AV.agg (aT F),ai 0]),yI BE,yR (AV.bq [AV.agg (aT F),ai 0]),yR (AV.agg (aT F)),yR (ai 0),yL 17 17,yR (ai 0)])<|ak<|bf.sv [.ae [11,32,10,23,15,8,7,6,4,3,0,1,2,9] [10,7,6,3,4,8]] bh<|zq<|du 39 ((0:Int) == (0:Int)) fb<|zP 1 [{}] [.ae [39,11,32,10,23,15,8,7,6,4,3,0,1,2,9] [4,10,7,6,3,8]] [yL 17 17]<|zX (yH [(1,{k:=i}),(2,yV (ai (S.snd i))),(3,yV (ai (S.snd i+1))),(4,{k:=i}),(5,yV (AV.arr (xC (GY S.snd i (S.snd i+1)))))]) [yR (↑i:Int),yI dz,yI L3,yN (S.snd i+1),yR (↑i:Int),yI dz,yI Uu,yB (i+1≤10) (by assumption)]<|aM<|ak<|zX (yH [(1,yV (ai ((↑i:Int)+1)))]) [yN ((↑i:Int)+1)] (aJ (i+1) (by assumption) ah (eK [.ae [8,7,6,4,3,0,1,2,9] [7,6,3,4,8]] [] [4,8] [yB (List.map (aD 10) (List.take 0 (List.map (aD 10) (aT S.fst))++(aT F)++List.drop 17 (List.map (aD 10) (aT S.fst)))=aT (bH e c.nx dQ (i+1)).fst) (by rw [dP];rfl),yB (xC (GY S.snd i (S.snd i+1))=xC (bH e c.nx dQ (i+1)).snd) (by rw [dP])]))
 ·have ei:i=10:=ah
  subst ei
  refine zE 0<|a7<|aO<|bn<|ak<|zS<|y9 3 [2] [(0,yV (AV.agg [ai ((bH e c.nx dQ 10).fst.aB),aw ((bH e c.nx dQ 10).fst.prev),ai ((bH e c.nx dQ 10).fst.kind),db (bH e c.nx dQ 10).fst.name,ai ((bH e c.nx dQ 10).fst.kh),aw ((bH e c.nx dQ 10).fst.kr),ai ((bH e c.nx dQ 10).fst.bt),aw ((bH e c.nx dQ 10).fst.dep.bR),aw ((bH e c.nx dQ 10).fst.dep.peer),AV.sl 1 (ag (bH e c.nx dQ 10).fst.dep.box),AV.sl 1 (af ay (bH e c.nx dQ 10).fst.dep.aa),AV.sl 1 (aj (bH e c.nx dQ 10).fst.dep.au),ai ((bH e c.nx dQ 10).fst.dep.need),aw ((bH e c.nx dQ 10).fst.dep.target),aw ((bH e c.nx dQ 10).fst.bR),aw ((bH e c.nx dQ 10).fst.target),AV.sl 4 (af a8 (bH e c.nx dQ 10).fst.aq)])),(1,yV (AV.agg [ai ((bH e c.nx dQ 10).snd 0),ai ((bH e c.nx dQ 10).snd 1),ai ((bH e c.nx dQ 10).snd 2),ai ((bH e c.nx dQ 10).snd 3),ai ((bH e c.nx dQ 10).snd 4),ai ((bH e c.nx dQ 10).snd 5),ai ((bH e c.nx dQ 10).snd 6),ai ((bH e c.nx dQ 10).snd 7),ai ((bH e c.nx dQ 10).snd 8),ai ((bH e c.nx dQ 10).snd 9)]))] [yR (List.take 17 (List.drop 0 (aT (bH e c.nx dQ 10).fst))),yR 17,yR (List.take 10 (List.drop 0 (xC (bH e c.nx dQ 10).snd))),yR 10,yL 17 17,yR (AV.agg [ai ((bH e c.nx dQ 10).snd 0),ai ((bH e c.nx dQ 10).snd 1),ai ((bH e c.nx dQ 10).snd 2),ai ((bH e c.nx dQ 10).snd 3),ai ((bH e c.nx dQ 10).snd 4),ai ((bH e c.nx dQ 10).snd 5),ai ((bH e c.nx dQ 10).snd 6),ai ((bH e c.nx dQ 10).snd 7),ai ((bH e c.nx dQ 10).snd 8),ai ((bH e c.nx dQ 10).snd 9)]),yR (List.take 10 (List.drop 0 (xC (bH e c.nx dQ 10).snd))),yR 10,yL 10 10]<|ak<|bf.sv [.ae [15,8,7,6,4,3,0,1,2,9] [7,6,3,4,8]] bh<|zR (zV [yR 10,yR (Value.int .i64 (bH e c.nx dQ 10).fst.aB),yR (Value.int .u64 (wv (bH e c.nx dQ 10).fst.prev)),yR (Value.int .i64 (bH e c.nx dQ 10).fst.kind),yR (Value.string (ByteArray.mk (bH e c.nx dQ 10).fst.name.toArray)),yR (Value.int .i64 (bH e c.nx dQ 10).fst.kh),yR (Value.int .u64 (wv (bH e c.nx dQ 10).fst.kr)),yR (Value.int .i64 (bH e c.nx dQ 10).fst.bt),yR (Value.int .u64 (wv (bH e c.nx dQ 10).fst.dep.bR)),yR (Value.int .u64 (wv (bH e c.nx dQ 10).fst.dep.peer)),yR (ag (bH e c.nx dQ 10).fst.dep.box),yR (af ay (bH e c.nx dQ 10).fst.dep.aa),yR (aj (bH e c.nx dQ 10).fst.dep.au),yR (Value.int .i64 (bH e c.nx dQ 10).fst.dep.need),yR (Value.int .u64 (wv (bH e c.nx dQ 10).fst.dep.target)),yR (Value.int .u64 (wv (bH e c.nx dQ 10).fst.bR)),yR (Value.int .u64 (wv (bH e c.nx dQ 10).fst.target)),yR (af a8 (bH e c.nx dQ 10).fst.aq),yR (xC (bH e c.nx dQ 10).snd)])
end Go.Proofs.YtjgbhhnghedgdaaGreatDoor
