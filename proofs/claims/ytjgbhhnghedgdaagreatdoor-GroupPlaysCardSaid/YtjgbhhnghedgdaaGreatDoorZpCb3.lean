import Derived.Test.YtjgbhhnghedgdaaGreatDoorZpCb2
set_option linter.all false
namespace Go.Proofs.YtjgbhhnghedgdaaGreatDoor
open Go.RowKit
set_option maxRecDepth 100000
set_option maxHeartbeats 4000000
instance:Inhabited fE:=⟨⟨0,0,[]⟩⟩
def vF (l:List fE):Nat->List Int
 | 0=>[]
 | n+1=>lH (vF l n) (l.getD n default)
def vE (l:List fE) (i:Nat):Int:=mM (vF l i) i (l.getD i default)
def eN (l:List fE):Int:=if ff (vE l) l.length≠0 then ff (vE l) l.length else if 0<l.length∧(vF l l.length).length=0 then 0 else 1
theorem JS (fr:List Int) (x:fE):(lH fr x).length≤fr.length+1:=by
 unfold lH oV
 have h:=Ab x (mz fr)
 rw [Be] at h
 rw [List.length_take];omega
theorem Gr (l:List fE):∀n,(vF l n).length≤n
 | 0=>Nat.le_refl _
 | n+1=>by
  have:=Gr l n
  have:=JS (vF l n) (l.getD n default)
  show (lH _ _).length≤_
  omega
theorem Lp {l:List fE}:∀ {n:Nat},(∀j,j<n->(l.getD j default).kind=5->wv (l.getD j default).num≤512)-> ∀k∈vF l n,-(n:Int)≤k∧k≤512
 | 0,_,k,hk=>by cases hk
 | n+1,h,k,hk=>by
  have ih:=Lp (l:=l) (n:=n) (fun j hj=>h j aj)
  have h5:=h n aj
  have hk:k∈oV (lq (l.getD n default) (mz (vF l n))):=hk
  have hk:=List.mem_of_mem_take hk
  have hd:∀k∈mz (vF l n),-((n+1:Nat):Int)≤k∧k≤512:=by
   intro k hk
   unfold mz at hk
   split at hk
   ·have:=ih k hk;omega
   ·rename_i h0
    have hm:=ih ((vF l n).getD ((vF l n).length-1) 0) (by rw [List.getD_eq_getElem?_getD,List.getElem?_eq_getElem aj];exact List.getElem_mem aj)
    rcases List.mem_or_eq_of_mem_set hk with q|q
    ·have:=ih k q;omega
    ·omega
  unfold lq at hk
  split at hk
  ·rename_i hx
   rcases List.mem_append.1 hk with q|q
   ·exact hd k q
   ·have e:=List.mem_singleton.1 q
    have:=h5 hx.1
    omega
  ·exact hd k hk
theorem Ko {fr:List Int} {c:Nat} {x:fE} (h:mM fr c x=0) (h5:x.kind=5):wv x.num≤512:=by
 apply Classical.byContradiction
 intro q
 unfold mM at h
 split at h
 ·omega
 ·split at h
  ·rename_i q2;exact q2 h
  ·split at h
   ·omega
   ·split at h
    ·omega
    ·rw [if_pos ⟨h5,aj⟩] at h;omega
theorem xV {f:Nat->Int}:∀ {n:Nat},ff f n=0-> ∀j,j<n->f j=0
 | 0,_,j,hj=>by omega
 | n+1,h,j,hj=>by
  have h1:ff f n=0:=by
   apply Classical.byContradiction
   intro q
   have:ff f (n+1)=ff f n:=by show (if _ then _ else _)=_;rw [if_pos q]
   omega
  have h2:f n=0:=by
   have:ff f (n+1)=f n:=by show (if _ then _ else _)=_;rw [if_neg aj]
   omega
  by_cases e:j=n
  ·subst e;exact h2
  ·exact xV h1 j aj
theorem iI (l:List fE) (hl:l.length≤500) (hk:∀x∈l,eH x.kind) (hd:∀x∈l,x.cK.length≤1000000):bK Tryz.prog 127 [.sl 3 (af aY l)] (ai (eN l)):=by
 have sQ:(af aY l).length=l.length*3:=aE (e:=3) (fun _=>rfl) ..
 refine zO Tryz.func127 22<|zQ 2 [{},{}] []<|bf.oe (bR.Jc 3 0 99 3 (r:=⟨1,false,true,[.nil,ai 0]⟩) bD rfl rfl bD)<|zS<|zQ 1 [yH [(1,{k:=l.length})]] [yI sQ]<|zB 0 (zL (fun (i:Nat)=>(⟨[(8,ai (↑l.length:Int)),(7,AV.sl 3 (af aY l)),(3,AV.addr 3 0),(0,AV.sl 3 (af aY l)),(9,ai i)],[(3,⟨1,false,true,[.ref 99,ai i]⟩),(99,⟨3,true,false,af bA (vF l i)⟩)]⟩:AS)) (fun i=>(i≤l.length∧ff (vE l) i=0)) (fun i=>(l.length-i)) (0) ?_ (zW [.aa [8,7,3,0,9] [3,99]]) ?_)
 ·exact ⟨aj,rfl⟩
 rintro i ⟨hi,h0⟩
 have vh:=Gr l i
 have gh:=xV h0
 have mT:=Lp (l:=l) (n:=i) (fun j hj h5=>Ko (gh j hj) h5)
 have gH:∀k∈vF l i,-1000≤k∧k≤1000:=fun k hm=>by have:=mT k hm;omega
 have Pv:(vF l i).length≤1000:=aj
 clear gh mT vh
 refine zq<|zS (zD 10 ((↑i:Int)<(↑l.length:Int)) (fun h=>?_) (fun h=>?_))
 ·have dD:i<l.length:=aj
  have hm:l.getD i default∈l:=by rw [List.getD_eq_getElem?_getD,List.getElem?_eq_getElem dD];exact List.getElem_mem dD
  have Qq:=hk _ hm
  have Qx:=hd _ hm
  by_cases e:mM (vF l i) i (l.getD i default)=0
  ·have dL:=Fb (vF l i) i (l.getD i default) e Qq Pv gH aj Qx
   have k2:ff (vE l) (i+1)=0:=by show (if _ then _ else _)=_;rw [if_neg aj];exact e
   refine a7<|zS<|zB 1<|zP 3 [yH [(0,{k:=i}),(1,yV (AV.agg (aY (l.getD i default))))],yH [(1,{av:=some (ai 0),ln:=[(3,1000000000000),(99,5)],ho:=[(1000000000000,Row.mk 1 false true [AV.ref 5,ai (↑(i+1):Int)]),(5,Row.mk 3 true false (af bA (lH (vF l i) (l.getD i default))))]})],{}] [.aa [16,6,5,10,8,7,3,0,9] [3,99,5]] [yR (↑i:Int),yO (i*3<(af aY l).length),yu aY l i 0 3,yR 3,yL 3 3,yI dL,yB ([AV.ref 99,ai ↑i].length= [AV.ref 5,ai (↑(i+1):Int)].length∧0< [AV.ref 5,ai (↑(i+1):Int)].length) ⟨rfl,Nat.succ_pos _⟩]<|zF 16<|zK<|aL<|ak<|zX (yH [(0,yV (ai ((↑i:Int)+1)))]) [yN ((↑i:Int)+1)] (aH (i+1) ⟨aj,k2⟩ aj (zW [.aa [8,7,3,0,9] [3,99]]))
  ·have dL:=B9 (vF l i) i (l.getD i default) e Qq Pv aj Qx
   have k2:ff (vE l) (i+1)=vE l i:=by show (if _ then _ else _)=_;rw [if_neg aj]
   have k3:=k9 (E:=vE l) e k2 l.length aj
   have k4:eN l=mM (vF l i) i (l.getD i default):=by unfold eN;rw [if_pos (by rw [k3];exact e),k3]
   refine a7<|zS<|zB 1<|zP 3 [yH [(0,{k:=i}),(1,yV (AV.agg (aY (l.getD i default))))],yH [(1,{av:=some (ai (mM (vF l i) i (l.getD i default))),ln:=[(3,1000000000000),(99,5)],ho:=[(1000000000000,Row.mk 1 false true [AV.ref 5,ai ↑i]),(5,Row.mk 3 true false (af bA (vF l i)))]})],{}] [.aa [16,6,5,10,8,7,3,0,9] [3,99,5]] [yR (↑i:Int),yO (i*3<(af aY l).length),yu aY l i 0 3,yR 3,yL 3 3,yI dL,yB ([AV.ref 99,ai ↑i].length= [AV.ref 5,ai ↑i].length∧0< [AV.ref 5,ai ↑i].length) (by simp [e])]<|dr 16 (mM (vF l i) i (l.getD i default) != (0:Int)) (by simp_all)<|zP 1 [{}] [.aa [2,16,6,5,10,8,7,3,0,9] [3,99,5]] []<|zR<|bc<|aK<|dz<|bc<|aK (zV [yJ (mM (vF l i) i (l.getD i default)) (eN l) (by rw [k4])])
 ·have e:i=l.length:=aj
  subst e
  by_cases N8:0<l.length∧(vF l l.length).length=0
  ·have k4:eN l=0:=by unfold eN;rw [if_neg aj,if_pos N8]
   refine zE 0<|a_<|aP<|bo<|ak<|zS<|zP 1 [yH [(1,{av:=some (ao (decide (0<l.length∧(vF l l.length).length=0))),ln:=[(3,1000000000000),(99,5)],ho:=[(1000000000000,Row.mk 1 false true [AV.ref 5,ai (↑l.length:Int)]),(5,Row.mk 3 true false (af bA (vF l l.length)))]}),(2,yV (ao false))]] [.aa [21,10,8,7,3,0,9] [3,99]] [yI (fX (vF l l.length) l.length aj),yB ([AV.ref 99,ai (↑l.length:Int)].length= [AV.ref 5,ai (↑l.length:Int)].length∧0< [AV.ref 5,ai (↑l.length:Int)].length) ⟨rfl,Nat.succ_pos _⟩,yB (ao (!decide (0<l.length∧(vF l l.length).length=0))=ao false) (by rw [decide_eq_true N8];rfl)]<|zF 21<|a7<|zq<|zR (zV [yJ 0 (eN l) (by rw [k4])])
  ·have k4:eN l=1:=by unfold eN;rw [if_neg aj,if_neg N8]
   refine zE 0<|a_<|aP<|bo<|ak<|zS<|zP 1 [yH [(1,{av:=some (ao (decide (0<l.length∧(vF l l.length).length=0))),ln:=[(3,1000000000000),(99,5)],ho:=[(1000000000000,Row.mk 1 false true [AV.ref 5,ai (↑l.length:Int)]),(5,Row.mk 3 true false (af bA (vF l l.length)))]}),(2,yV (ao true))]] [.aa [21,10,8,7,3,0,9] [3,99]] [yI (fX (vF l l.length) l.length aj),yB ([AV.ref 99,ai (↑l.length:Int)].length= [AV.ref 5,ai (↑l.length:Int)].length∧0< [AV.ref 5,ai (↑l.length:Int)].length) ⟨rfl,Nat.succ_pos _⟩,yB (ao (!decide (0<l.length∧(vF l l.length).length=0))=ao true) (by rw [decide_eq_false N8];rfl)]<|zT 21<|zq<|dt (zV [yJ 1 (eN l) (by rw [k4])])
def oJ (n:UInt64) (s q:Nat):List UInt8:=(List.range q).map fun j=>(n>>>UInt64.ofNat (8*(s-1-j))).toUInt8
def cE (m:UInt8) (n:UInt64):List UInt8 :=
 if wv n<24 then [m<<<5+n.toUInt8] else if wv n<256 then (m<<<5+24)::oJ n 1 1 else if wv n<65536 then (m<<<5+25)::oJ n 2 2 else if wv n<4294967296 then (m<<<5+26)::oJ n 4 4 else (m<<<5+27)::oJ n 8 8
theorem Dy (n:UInt64) (s q:Nat):(oJ n s q).length=q:=by simp [oJ]
theorem Gw (n:UInt64) (s q:Nat):oJ n s (q+1)=oJ n s q++ [(n>>>UInt64.ofNat (8*(s-1-q))).toUInt8]:=by
 unfold oJ
 rw [List.range_succ,List.map_append];rfl
def J1 (o:List UInt8):List (Nat×Row):=[(5,⟨1,true,false,ag o⟩)]
theorem nR (o:List UInt8) (m:UInt8) (n:UInt64) (ho:o.length≤1000000):gk Tryz.prog 164 [.ref 5,ab m,aw n] (J1 o) (.own 1 (ag (o++cE m n))) (J1 []):=by
 have F_:(ag o).length=o.length:=aC o
 have VM:=Lm n
 refine mV Tryz.func164 58<|zP 3 [{},yH [(1,yV (ab (m<<<(5:UInt8))))],{}] [.aa [8,7,6,0,1,2] [5]] [yI (Lh m ((5:Int)) aj aj),yO ((0:Int)≤5)] ?_
 by_cases h1:wv n<24
 ·have e:cE m n= [m<<<5+n.toUInt8]:=if_pos h1
  refine zS<|zB 0<|zP 1 [{}] [.aa [14,8,7,6,0,1,2] [5]] []<|ib 14 (wv n<24)<|zP 1 [yH [(3,yV (ab n.toUInt8)),(4,yV (ab (m<<<(5:UInt8)+n.toUInt8))),(5,yV (AV.arr (ag [m<<<(5:UInt8)+n.toUInt8]))),(6,yV (AV.arr (ag (o++ [m<<<(5:UInt8)+n.toUInt8]))))]] [.aa [6,14,8,7,1,2] [23]] [yR (ab n.toUInt8),yR (ab (m<<<(5:UInt8)+n.toUInt8)),yR [ab (m<<<(5:UInt8)+n.toUInt8)],yB (ag o++ag [m<<<(5:UInt8)+n.toUInt8]=ag (o++ [m<<<(5:UInt8)+n.toUInt8])) (cX _ _),yO (((ag o).length+1)*1≤140737488355328)]<|bf.oe (bR.add 5 1 bD)<|zR<|bc<|aK (zG [] [yB (ag (o++ [m<<<(5:UInt8)+n.toUInt8])=ag (o++cE m n)) (by rw [e]),yB ([]=ag []) rfl])
 refine bf.k7 (fun (t:UInt8×Nat)=>(⟨[(0,AV.ref 5),(1,ab m),(2,aw n),(7,ab t.1),(8,ai t.2)],[(5,⟨1,true,false,ag o⟩)]⟩:AS)) (fun t=>(cE m n=t.1::oJ n t.2 t.2∧1≤t.2∧t.2≤8)) bD ?_ ?_
 ·by_cases h2:wv n<256
  ·have e:cE m n=(m<<<5+24)::oJ n 1 1:=by unfold cE;rw [if_neg h1,if_pos h2]
   refine zB 0<|zP 1 [{}] [.aa [14,8,7,6,0,1,2] [5]] []<|dp 14 (wv n<24)<|zP 1 [{}] [.aa [24,14,8,7,6,0,1,2] [5]] []<|ib 24 (wv n<256)<|zX (yH [(1,yV (ab (m<<<(5:UInt8)+24)))]) [yR (ab (m<<<(5:UInt8)+24))]<|aL<|ak (⟨(m<<<5+24,1),(by refine ⟨?_,?_⟩<;>omega),(zW [.aa [0,1,2,7,8] [5]])⟩)
  by_cases h3:wv n<65536
  ·have e:cE m n=(m<<<5+25)::oJ n 2 2:=by unfold cE;rw [if_neg h1,if_neg h2,if_pos h3]
   refine zB 0<|zP 1 [{}] [.aa [14,8,7,6,0,1,2] [5]] []<|dp 14 (wv n<24)<|zP 1 [{}] [.aa [24,14,8,7,6,0,1,2] [5]] []<|dp 24 (wv n<256)<|zP 1 [{}] [.aa [29,24,14,8,7,6,0,1,2] [5]] []<|ib 29 (wv n<65536)<|zX (yH [(1,yV (ab (m<<<(5:UInt8)+25)))]) [yR (ab (m<<<(5:UInt8)+25))]<|aL<|ak (⟨(m<<<5+25,2),(by refine ⟨?_,?_⟩<;>omega),(zW [.aa [0,1,2,7,8] [5]])⟩)
  by_cases h4:wv n<4294967296
  ·have e:cE m n=(m<<<5+26)::oJ n 4 4:=by unfold cE;rw [if_neg h1,if_neg h2,if_neg h3,if_pos h4]
   refine zB 0<|zP 1 [{}] [.aa [14,8,7,6,0,1,2] [5]] []<|dp 14 (wv n<24)<|zP 1 [{}] [.aa [24,14,8,7,6,0,1,2] [5]] []<|dp 24 (wv n<256)<|zP 1 [{}] [.aa [29,24,14,8,7,6,0,1,2] [5]] []<|dp 29 (wv n<65536)<|zP 1 [{}] [.aa [34,29,24,14,8,7,6,0,1,2] [5]] []<|ib 34 (wv n<4294967296)<|zX (yH [(1,yV (ab (m<<<(5:UInt8)+26)))]) [yR (ab (m<<<(5:UInt8)+26))]<|aL<|ak (⟨(m<<<5+26,4),(by refine ⟨?_,?_⟩<;>omega),(zW [.aa [0,1,2,7,8] [5]])⟩)
  ·have e:cE m n=(m<<<5+27)::oJ n 8 8:=by unfold cE;rw [if_neg h1,if_neg h2,if_neg h3,if_neg h4]
   refine zB 0<|zP 1 [{}] [.aa [14,8,7,6,0,1,2] [5]] []<|dp 14 (wv n<24)<|zP 1 [{}] [.aa [24,14,8,7,6,0,1,2] [5]] []<|dp 24 (wv n<256)<|zP 1 [{}] [.aa [29,24,14,8,7,6,0,1,2] [5]] []<|dp 29 (wv n<65536)<|zP 1 [{}] [.aa [34,29,24,14,8,7,6,0,1,2] [5]] []<|dp 34 (wv n<4294967296)<|zX (yH [(1,yV (ab (m<<<(5:UInt8)+27)))]) [yR (ab (m<<<(5:UInt8)+27))]<|aL<|ak (⟨(m<<<5+27,8),(by refine ⟨?_,?_⟩<;>omega),(zW [.aa [0,1,2,7,8] [5]])⟩)
 rintro ⟨f,s⟩ ⟨e,s1,s8⟩
 simp only at e s1 s8
 have Ci:=Dy n s
 refine zP 1 [yH [(2,yV (AV.arr (ag [f]))),(3,yV (AV.ref 42))]] [.aa [0,1,2,7,8] [42]] [yR [ab f],yO (((ag o).length+1)*1≤140737488355328)]<|zS<|zP 1 [yH [(1,yV (ai ((↑s:Int)-1)))]] [.aa [9,0,1,2,7,8] [42]] [yN ((↑s:Int)-1)]<|zB 1 (zL (fun (q:Nat)=>(⟨[(1,ab m),(2,aw n),(7,ab f),(8,ai ↑s),(9,ai ((s:Int)-1-q)),(0,AV.ref 42)],[(42,⟨1,true,false,ag (o++f::oJ n s q)⟩)]⟩:AS)) (fun q=>(q≤s)) (fun q=>(s-q)) (0) ?_ (eJ [.aa [1,2,7,8,9,0] [42]] [9] [42] [yB (ai ((↑s:Int)-1)=ai ((↑s:Int)-1-(↑(0:Nat):Int))) (congrArg (fun n=>AV.val (.int .i64 n)) aj),yB (ag o++ag [f]=ag (o++f::oJ n s 0)) (by rw [cX];rfl)]) ?_)
 ·omega
 intro q hq
 have Ur:=Dy n s q
 have VP:(ag (o++f::oJ n s q)).length=o.length+(q+1):=by rw [aC,List.length_append,List.length_cons,Ur]
 refine zS<|zP 1 [{}] [.aa [46,1,2,7,8,9,0] [42]] [] (zD 46 ((↑s:Int)-1-(↑q:Int)≥0) (fun h=>?_) (fun h=>?_))
 ·have w:IntKind.i64.wrap (8*((s:Int)-1-q))=((8*(s-1-q):Nat):Int):=by rw [IntKind.wrap_i64];omega
  refine a7<|zS<|zB 2<|zX (yH [(3,yV (ai (↑(8*(s-1-q)):Int))),(4,yV (aw (n>>>UInt64.ofNat (↑(8*(s-1-q)):Int).toNat))),(5,yV (ab ((n>>>UInt64.ofNat (↑(8*(s-1-q)):Int).toNat).toUInt8))),(6,yV (AV.arr (ag [(n>>>UInt64.ofNat (↑(8*(s-1-q)):Int).toNat).toUInt8]))),(7,yV (AV.arr (ag (o++f::oJ n s q++ [(n>>>UInt64.ofNat (↑(8*(s-1-q)):Int).toNat).toUInt8]))))]) [yI (yc w),yI (fg n ((↑(8*(s-1-q)):Int)) aj aj),yO ((0:Int)≤(↑(8*(s-1-q)):Int)),yR (ab ((n>>>UInt64.ofNat (↑(8*(s-1-q)):Int).toNat).toUInt8)),yR [ab ((n>>>UInt64.ofNat (↑(8*(s-1-q)):Int).toNat).toUInt8)],yB (ag (o++f::oJ n s q)++ag [(n>>>UInt64.ofNat (↑(8*(s-1-q)):Int).toNat).toUInt8]=ag (o++f::oJ n s q++ [(n>>>UInt64.ofNat (↑(8*(s-1-q)):Int).toNat).toUInt8])) (cX _ _),yO (((ag (o++f::oJ n s q)).length+1)*1≤140737488355328)]<|aL<|ak<|zX (yH [(1,yV (ai ((↑s:Int)-1-(↑q:Int)-1)))]) [yN ((↑s:Int)-1-(↑q:Int)-1)] (aH (q+1) aj aj (eJ [.sm 56 42,.aa [1,2,7,8,9,0] [42]] [9] [42] [yB (ai ((↑s:Int)-1-(↑q:Int)-1)=ai ((↑s:Int)-1-(↑(q+1):Int))) (congrArg (fun n=>AV.val (.int .i64 n)) aj),yB (ag (o++f::oJ n s q++ [(n>>>UInt64.ofNat (↑(8*(s-1-q)):Int).toNat).toUInt8])=ag (o++f::oJ n s (q+1))) (congrArg ag (by rw [Gw,Int.toNat_natCast];simp))]))
 ·have e2:q=s:=aj
  subst e2
  refine bf.oe (bR.add 5 1 bD)<|zE 1<|a_<|aP<|bo<|ak<|zq<|zR (zG [] [yB (ag (o++f::oJ n q q)=ag (o++cE m n)) (by rw [e]),yB ([]=ag []) rfl])
def jg (x:fE):List UInt8:=if x.kind=3∨x.kind=4 then cE (u8 (x.kind-1)) (u64 x.cK.length)++x.cK else cE (u8 (x.kind-1)) x.num
theorem lQ (m:UInt8) (n:UInt64):(cE m n).length≤9:=by
 unfold cE
 split
 ·simp
 ·split
  ·simp [oJ]
  ·split
   ·simp [oJ]
   ·split<;>simp [oJ]
theorem yz (o:List UInt8) (x:fE) (hk:eH x.kind) (ho:o.length≤900000) (hd:x.cK.length≤10000):gk Tryz.prog 128 [.ref 5,.agg (aY x)] (J1 o) (.own 1 (ag (o++jg x))) (J1 []):=by
 have hz:(⟨x.cK.toArray⟩:ByteArray).size≤maxLen:=by
  show x.cK.toArray.size≤_
  unfold maxLen
  simp;omega
 rcases hk with h|h|h|h
 ·have e:jg x=cE (u8 (x.kind-1)) x.num:=if_neg aj
  refine mV Tryz.func128 46<|zq<|zS<|zq<|zB 0<|zP 1 [{}] [.aa [7,6,4,3,0,1] [3,5]] []<|bj 7 (x.kind == (7:Int)) bE<|zq<|bj 16 (x.kind == (8:Int)) bE<|zS<|zP 1 [{}] [.aa [21,16,7,6,4,3,0,1] [3,5]] []<|bj 21 (x.kind == (3:Int)) bE<|zX {} []<|ak<|bj 21 (x.kind == (4:Int)) bE<|zK<|aL<|ak<|zP 1 [yH [(3,yV (ai (x.kind-1))),(4,yV (ab (u8 (x.kind-1)))),(7,{av:=some (AV.own 1 (ag (o++cE (u8 (x.kind-1)) x.num))),ln:=[(5,5)],ho:=[(5,Row.mk 1 true false (ag []))]})]] [.aa [4,21,16,7,6,3,1] [45,5,3]] [yN (x.kind-1),yI (iW (x.kind-1)),yI (nR o (u8 (x.kind-1)) x.num aj)]<|zR (zG [] [yB (ag (o++cE (u8 (x.kind-1)) x.num)=ag (o++jg x)) (by rw [e]),yR (ag [])])
 ·have e:jg x=cE (u8 (x.kind-1)) (u64 x.cK.length)++x.cK:=if_pos aj
  have hl:=lQ (u8 (x.kind-1)) (u64 x.cK.length)
  have hb:(ag (o++cE (u8 (x.kind-1)) (u64 x.cK.length))).length≤900009:=by rw [aC,List.length_append];omega
  have q7:(ag x.cK.toArray.toList).length≤10000:=by rw [aC];exact hd
  refine mV Tryz.func128 46<|zq<|zS<|zq<|zB 0<|zP 1 [{}] [.aa [7,6,4,3,0,1] [3,5]] []<|bj 7 (x.kind == (7:Int)) bE<|zq<|bj 16 (x.kind == (8:Int)) bE<|zS<|zP 1 [{}] [.aa [21,16,7,6,4,3,0,1] [3,5]] []<|dr 21 (x.kind == (3:Int)) fi<|a7<|dr 21 (x.kind == (3:Int)) fi<|zP 2 [yH [(3,yV (ai (x.kind-1))),(4,yV (ab (u8 (x.kind-1)))),(7,yV (ai (↑x.cK.length:Int))),(8,yV (aw (u64 (↑x.cK.length:Int)))),(9,{av:=some (AV.own 1 (ag (o++cE (u8 (x.kind-1)) (u64 (↑x.cK.length:Int))))),ln:=[(5,5)],ho:=[(5,Row.mk 1 true false (ag []))]})],yH [(3,{av:=some (AV.arr (ag (o++cE (u8 (x.kind-1)) (u64 (↑x.cK.length:Int))++x.cK.toArray.toList))),b:=false})]] [.aa [4,21,16,7,6,3,1] [37,5,3]] [yN (x.kind-1),yI (iW (x.kind-1)),yR (ai (↑x.cK.length:Int)),yI (a8 ((↑x.cK.length:Int))),yI (nR o (u8 (x.kind-1)) (u64 (↑x.cK.length:Int)) aj),yB (ag (o++cE (u8 (x.kind-1)) (u64 (↑x.cK.length:Int)))++ag x.cK.toArray.toList=ag (o++cE (u8 (x.kind-1)) (u64 (↑x.cK.length:Int))++x.cK.toArray.toList)) (cX _ _),yB (cH (ag x.cK.toArray.toList)) (fQ _),yO (((ag (o++cE (u8 (x.kind-1)) (u64 (↑x.cK.length:Int)))).length+(ag x.cK.toArray.toList).length)*1≤140737488355328)]<|zR<|bc<|aK (zG [] [yB (ag (o++cE (u8 (x.kind-1)) (u64 (↑x.cK.length:Int))++x.cK.toArray.toList)=ag (o++jg x)) (by rw [e];simp),yR (ag [])])
 ·have e:jg x=cE (u8 (x.kind-1)) (u64 x.cK.length)++x.cK:=if_pos aj
  have hl:=lQ (u8 (x.kind-1)) (u64 x.cK.length)
  have hb:(ag (o++cE (u8 (x.kind-1)) (u64 x.cK.length))).length≤900009:=by rw [aC,List.length_append];omega
  have q7:(ag x.cK.toArray.toList).length≤10000:=by rw [aC];exact hd
  refine mV Tryz.func128 46<|zq<|zS<|zq<|zB 0<|zP 1 [{}] [.aa [7,6,4,3,0,1] [3,5]] []<|bj 7 (x.kind == (7:Int)) bE<|zq<|bj 16 (x.kind == (8:Int)) bE<|zS<|zP 1 [{}] [.aa [21,16,7,6,4,3,0,1] [3,5]] []<|bj 21 (x.kind == (3:Int)) bE<|zX {} []<|ak<|dr 21 (x.kind == (4:Int)) fi<|zP 2 [yH [(3,yV (ai (x.kind-1))),(4,yV (ab (u8 (x.kind-1)))),(7,yV (ai (↑x.cK.length:Int))),(8,yV (aw (u64 (↑x.cK.length:Int)))),(9,{av:=some (AV.own 1 (ag (o++cE (u8 (x.kind-1)) (u64 (↑x.cK.length:Int))))),ln:=[(5,5)],ho:=[(5,Row.mk 1 true false (ag []))]})],yH [(3,{av:=some (AV.arr (ag (o++cE (u8 (x.kind-1)) (u64 (↑x.cK.length:Int))++x.cK.toArray.toList))),b:=false})]] [.aa [4,21,16,7,6,3,1] [37,5,3]] [yN (x.kind-1),yI (iW (x.kind-1)),yR (ai (↑x.cK.length:Int)),yI (a8 ((↑x.cK.length:Int))),yI (nR o (u8 (x.kind-1)) (u64 (↑x.cK.length:Int)) aj),yB (ag (o++cE (u8 (x.kind-1)) (u64 (↑x.cK.length:Int)))++ag x.cK.toArray.toList=ag (o++cE (u8 (x.kind-1)) (u64 (↑x.cK.length:Int))++x.cK.toArray.toList)) (cX _ _),yB (cH (ag x.cK.toArray.toList)) (fQ _),yO (((ag (o++cE (u8 (x.kind-1)) (u64 (↑x.cK.length:Int)))).length+(ag x.cK.toArray.toList).length)*1≤140737488355328)]<|zR<|bc<|aK (zG [] [yB (ag (o++cE (u8 (x.kind-1)) (u64 (↑x.cK.length:Int))++x.cK.toArray.toList)=ag (o++jg x)) (by rw [e];simp),yR (ag [])])
 ·have e:jg x=cE (u8 (x.kind-1)) x.num:=if_neg aj
  refine mV Tryz.func128 46<|zq<|zS<|zq<|zB 0<|zP 1 [{}] [.aa [7,6,4,3,0,1] [3,5]] []<|bj 7 (x.kind == (7:Int)) bE<|zq<|bj 16 (x.kind == (8:Int)) bE<|zS<|zP 1 [{}] [.aa [21,16,7,6,4,3,0,1] [3,5]] []<|bj 21 (x.kind == (3:Int)) bE<|zX {} []<|ak<|bj 21 (x.kind == (4:Int)) bE<|zK<|aL<|ak<|zP 1 [yH [(3,yV (ai (x.kind-1))),(4,yV (ab (u8 (x.kind-1)))),(7,{av:=some (AV.own 1 (ag (o++cE (u8 (x.kind-1)) x.num))),ln:=[(5,5)],ho:=[(5,Row.mk 1 true false (ag []))]})]] [.aa [4,21,16,7,6,3,1] [45,5,3]] [yN (x.kind-1),yI (iW (x.kind-1)),yI (nR o (u8 (x.kind-1)) x.num aj)]<|zR (zG [] [yB (ag (o++cE (u8 (x.kind-1)) x.num)=ag (o++jg x)) (by rw [e]),yR (ag [])])
def gQ (l:List fE):List UInt8:=l.flatMap jg
def FL (l:List fE):List UInt8:=if eN l=0 then gQ l else []
theorem Ba (x:fE):(jg x).length≤9+x.cK.length:=by
 unfold jg
 split
 ·have:=lQ (u8 (x.kind-1)) (u64 x.cK.length)
  rw [List.length_append];omega
 ·have:=lQ (u8 (x.kind-1)) x.num
  omega
theorem qd:∀ {l:List fE} {n:Nat},(∀x∈l,x.cK.length≤10000)->l.length≤n->(gQ l).length≤10009*n
 | [],n,_,_=>Nat.zero_le _
 | x::l,n,h,hn=>by
  have ih:=qd (l:=l) (n:=n-1) (fun y hy=>h y (by simp [hy])) (by simp at hn;omega)
  have h1:=Ba x
  have h2:=h x (by simp)
  simp only [List.length_cons] at hn
  show (jg x++gQ l).length≤_
  rw [List.length_append];omega
theorem CX (l:List fE) (hl:l.length≤50) (hk:∀x∈l,eH x.kind) (hd:∀x∈l,x.cK.length≤10000):bK Tryz.prog 77 [.sl 3 (af aY l)] (.br [.own 1 (ag (FL l)),ai (eN l)]):=by
 have sQ:(af aY l).length=l.length*3:=aE (e:=3) (fun _=>rfl) ..
 have yX:∀x∈l,x.cK.length≤1000000:=fun x hx=>by have:=hd x hx;omega
 by_cases h:eN l=0
 case neg =>
  have e:FL l= []:=if_neg h
  refine zO Tryz.func77 24<|zq<|zS<|zP 2 [yH [(1,yV (ai (eN l)))],yH [(1,yV (ao true))]] [.aa [11,4,3,2,0] []] [yI (iI l aj hk yX),yB (ao (eN l != (0:Int))=ao true) (by simp [h])]<|zT 11<|zq<|dt (zV [yB (ag (FL l)= []) (by rw [e];rfl),yR (Value.int .i64 (eN l))])
 have e:FL l=gQ l:=if_pos h
 refine zO Tryz.func77 24<|zq<|zS<|zP 2 [yH [(1,yV (ai (eN l)))],yH [(1,yV (ao false))]] [.aa [11,4,3,2,0] []] [yI (iI l aj hk yX),yB (ao (eN l != (0:Int))=ao false) (by simp [h])]<|zF 11<|a7<|zq<|zS<|zQ 1 [yH [(1,{k:=l.length})]] [yI sQ]<|zB 0 (zL (fun (i:Nat)=>(⟨[(14,ai (↑l.length:Int)),(13,AV.sl 3 (af aY l)),(11,ao false),(4,ai (eN l)),(3,ai 0),(2,AV.nil),(0,AV.sl 3 (af aY l)),(15,ai i),(5,AV.ref 21)],[(21,⟨1,true,false,ag (gQ (l.take i))⟩)]⟩:AS)) (fun i=>(i≤l.length)) (fun i=>(l.length-i)) (0) ?_ (zW [.nil 5 21 1,.aa [14,13,11,4,3,2,0,15,5] [21]]) ?_)
 ·omega
 intro i hi
 have MP:(gQ (l.take i)).length≤10009*i:=qd (fun x hx=>hd x (List.mem_of_mem_take hx)) (by rw [List.length_take];omega)
 refine zq<|zS (zD 16 ((↑i:Int)<(↑l.length:Int)) (fun h2=>?_) (fun h2=>?_))
 ·have dD:i<l.length:=aj
  have hm:l.getD i default∈l:=by rw [List.getD_eq_getElem?_getD,List.getElem?_eq_getElem dD];exact List.getElem_mem dD
  have Qq:=hk _ hm
  have Qx:=hd _ hm
  have es:gQ (l.take i)++jg (l.getD i default)=gQ (l.take (i+1)):=by
   rw [List.take_succ_eq_append_getElem dD]
   unfold gQ
   rw [List.flatMap_append,List.getD_eq_getElem?_getD,List.getElem?_eq_getElem dD]
   simp
  refine a7<|zS<|zB 1<|zP 1 [yH [(0,{k:=i}),(1,yV (AV.agg (aY (l.getD i default))))]] [.aa [7,16,14,13,11,4,3,2,0,15,5] [7,21]] [yR (↑i:Int),yO (i*3<(af aY l).length),yu aY l i 0 3,yR 3,yL 3 3]<|zX (yH [(2,{av:=some (AV.own 1 (ag (gQ (List.take i l)++jg (l.getD i default)))),ln:=[(21,5)],ho:=[(5,Row.mk 1 true false (ag []))]})]) [yI (yz (gQ (List.take i l)) (l.getD i default) Qq aj Qx)]<|aL<|ak<|zX (yH [(0,yV (ai ((↑i:Int)+1)))]) [yN ((↑i:Int)+1)] (aH (i+1) (by assumption) aj (eJ [.aa [14,13,11,4,3,2,0,15,5] [21]] [] [21] [yB (ag (gQ (List.take i l)++jg (l.getD i default))=ag (gQ (List.take (i+1) l))) (congrArg ag es)]))
 ·have e2:i=l.length:=aj
  subst e2
  refine zE 0<|a_<|aP<|bo<|ak<|zq<|zR (zV [yB (ag (gQ (List.take l.length l))=ag (FL l)) (by rw [e,List.take_length]),yJ 0 (eN l) (by rw [h])])
def df (l:List fE):List AV:=[.sl 3 (af aY l)]
def aF (n:UInt64):fE:=⟨1,n,[]⟩
def cy (b:List UInt8):fE:=⟨4,0,b⟩
def dQ (b:List UInt8):fE:=⟨3,0,b⟩
def bC (n:UInt64):fE:=⟨5,n,[]⟩
theorem gU (n:UInt64):bK Tryz.prog 75 [aw n] (.own 3 (af aY [aF n])):=by
 refine zO Tryz.func75 6<|zP 2 [{},{}] [.aa [2,0] [5]] []<|zR (bU)
theorem tt (b:List UInt8):bK Tryz.prog 122 [cZ b] (.own 3 (af aY [cy b])):=by
 refine zO Tryz.func122 6<|zP 2 [{},{}] [.aa [2,0] [5]] []<|zR (bU)
theorem Bi (b:List UInt8) (hb:b.length≤1000000):bK Tryz.prog 123 [.sl 1 (ag b)] (.own 3 (af aY [dQ b])):=by
 refine zO Tryz.func123 7<|zP 2 [{},yH [(1,yV (cZ b))]] [.aa [2,0] [6]] [yR (ag b)]<|zR (bU)
theorem D0 {l:List (List fE)} {i:Nat} (h:i<l.length):(af df l)[i]?=some (.sl 3 (af aY (l.getD i default))):=by
 have:=nZ (f:=df) (e:=1) (l:=l) (k:=i) (j:=0) (fun _=>rfl) h (c:=.sl 3 (af aY (l.getD i default))) rfl
 simpa using this
structure Jp (vs:List (List fE)):Prop where
 len:vs.length≤20
 each:∀v∈vs,v.length≤20
 kind:∀v∈vs,∀x∈v,eH x.kind
 cK:∀v∈vs,∀x∈v,x.cK.length≤10000
def ot (vs:List (List fE)) (i:Nat):Int:=eN (vs.getD i default)
theorem Cv (vs:List (List fE)) (hv:Jp vs):bK Tryz.prog 125 [.sl 1 (af df vs)] (ai (ff (ot vs) vs.length)):=by
 have TE:=hv.len
 have sQ:(af df vs).length=vs.length:=by rw [aE (e:=1) (fun _=>rfl)];omega
 refine zO Tryz.func125 18<|zq<|zS<|zQ 1 [yH [(1,{k:=(af df vs).length})]] [yR ((af df vs).length)]<|zB 0 (zL (fun (i:Nat)=>(⟨[(7,ai (↑(af df vs).length:Int)),(6,AV.sl 1 (af df vs)),(0,AV.sl 1 (af df vs)),(8,ai i)],[]⟩:AS)) (fun i=>(i≤vs.length∧ff (ot vs) i=0)) (fun i=>(vs.length-i)) (0) ?_ (zW [.aa [7,6,0,8] []]) ?_)
 ·exact ⟨aj,rfl⟩
 rintro i ⟨hi,h0⟩
 refine zq<|zS (zD 9 ((↑i:Int)<(↑(af df vs).length:Int)) (fun h=>?_) (fun h=>?_))
 ·have dD:i<vs.length:=aj
  have gT:=D0 dD
  have hm:vs.getD i default∈vs:=by rw [List.getD_eq_getElem?_getD,List.getElem?_eq_getElem dD];exact List.getElem_mem dD
  have he:=hv.each _ hm
  have hk:=hv.kind _ hm
  have yX:∀x∈vs.getD i default,x.cK.length≤1000000:=fun x hx=>by have:=hv.cK _ hm x hx;omega
  by_cases e:eN (vs.getD i default)=0
  ·have k2:ff (ot vs) (i+1)=0:=by show (if _ then _ else _)=_;rw [if_neg aj];exact e
   refine a7<|zS<|zB 1<|zP 3 [yH [(0,{k:=i}),(1,yV (AV.sl 3 (af aY (vs.getD i default))))],yH [(1,yV (ai (eN (vs.getD i default))))],{}] [.aa [15,5,4,9,7,6,0,8] []] [yR (↑i:Int),yO (i<(af df vs).length),yI gT,yI (iI (vs.getD i default) aj hk yX)]<|bj 15 (eN (vs.getD i default) != (0:Int)) (by simp_all)<|zK<|aL<|ak<|zX (yH [(0,yV (ai ((↑i:Int)+1)))]) [yN ((↑i:Int)+1)] (aH (i+1) ⟨aj,k2⟩ aj (zW [.aa [7,6,0,8] []]))
  ·have k2:ff (ot vs) (i+1)=ot vs i:=by show (if _ then _ else _)=_;rw [if_neg aj]
   have k3:=k9 (E:=ot vs) e k2 vs.length aj
   refine a7<|zS<|zB 1<|zP 3 [yH [(0,{k:=i}),(1,yV (AV.sl 3 (af aY (vs.getD i default))))],yH [(1,yV (ai (eN (vs.getD i default))))],{}] [.aa [15,5,4,9,7,6,0,8] []] [yR (↑i:Int),yO (i<(af df vs).length),yI gT,yI (iI (vs.getD i default) aj hk yX)]<|dr 15 (eN (vs.getD i default) != (0:Int)) (by simp_all)<|zq<|zR<|bc<|aK<|dz<|bc<|aK (zV [yJ (eN (vs.getD i default)) (ff (ot vs) vs.length) (by rw [k3])])
 ·have e:i=vs.length:=aj
  subst e
  refine zE 0<|a_<|aP<|bo<|ak<|zq<|zR (zV [yJ 0 (ff (ot vs) vs.length) (by rw [h0])])
theorem Bh (l:List fE) (e:eN l=0) (hl:l.length≤500) (hk:∀x∈l,eH x.kind) (yX:∀x∈l,x.cK.length≤1000000):bK Tryz.prog 126 [.sl 3 (af aY l)] (.br [.sl 3 (af aY l),ai 0]):=by
 refine zO Tryz.func126 11<|zq<|zS<|zP 2 [yH [(1,yV (ai (eN l)))],yH [(1,yV (ao false))]] [.aa [8,4,3,2,0] []] [yI (iI l hl hk yX),yB (ao (eN l != (0:Int))=ao false) (by simp [e])]<|zF 8<|a7<|zq<|zR (bU)
def ph (vs:List (List fE)):List fE:=bC (u64 vs.length)::vs.flatten
theorem D5 {vs:List (List fE)} (hv:Jp vs):∀x∈ph vs,eH x.kind∧x.cK.length≤10000:=by
 intro x hx
 rcases List.mem_cons.1 hx with rfl|hx
 ·exact ⟨.inr (.inr (.inr rfl)),Nat.zero_le _⟩
 ·obtain ⟨v,hm,NL⟩:=List.mem_flatten.1 hx
  exact ⟨hv.kind v hm x NL,hv.cK v hm x NL⟩
theorem xF:∀ {vs:List (List fE)} {n:Nat},(∀v∈vs,v.length≤20)->vs.length≤n->vs.flatten.length≤20*n
 | [],n,_,_=>Nat.zero_le _
 | v::vs,n,h,hn=>by
  simp only [List.length_cons] at hn
  have ih:=xF (vs:=vs) (n:=n-1) (fun y hy=>h y (by simp [hy])) aj
  have h1:=h v (by simp)
  rw [List.flatten_cons,List.length_append];omega
theorem wh (x:fE):cH (aY x):=dP rfl
theorem rz (vs:List (List fE)) (hv:Jp vs) (hf:ff (ot vs) vs.length=0) (e:eN (ph vs)=0):bK Tryz.prog 76 [.sl 1 (af df vs)] (.br [.sl 3 (af aY (ph vs)),ai 0]):=by
 have TE:=hv.len
 have sQ:(af df vs).length=vs.length:=by rw [aE (e:=1) (fun _=>rfl)];omega
 have vh:=xF (vs:=vs) (n:=20) hv.each TE
 have R0:(ph vs).length≤500:=by show vs.flatten.length+1≤_;omega
 have VW:∀x∈ph vs,eH x.kind:=fun x hx=>(D5 hv x hx).1
 have VX:∀x∈ph vs,x.cK.length≤1000000:=fun x hx=>by have:=(D5 hv x hx).2;omega
 refine zO Tryz.func76 35<|zq<|zS<|zP 2 [yH [(1,yV (ai (ff (ot vs) vs.length)))],yH [(1,yV (ao false))]] [.aa [11,4,3,2,0] []] [yI (Cv vs hv),yB (ao (ff (ot vs) vs.length != (0:Int))=ao false) (by simp [hf])]<|zF 11<|a7<|zP 1 [yH [(1,{k:=(af df vs).length}),(2,yV (aw (u64 (↑(af df vs).length:Int))))]] [.aa [5,11,4,3,2,0] [17]] [yR ((af df vs).length),yI (a8 (↑(af df vs).length:Int))]<|zS<|zQ 1 [yH [(1,{k:=(af df vs).length})]] [yR ((af df vs).length)]<|zB 0 (zL (fun (i:Nat)=>(⟨[(19,ai (↑(af df vs).length:Int)),(18,AV.sl 1 (af df vs)),(11,ao false),(4,ai (ff (ot vs) vs.length)),(3,ai 0),(2,AV.nil),(0,AV.sl 1 (af df vs)),(20,ai i),(5,AV.ref 29)],[(29,⟨3,true,false,af aY (bC (u64 vs.length)::(vs.take i).flatten)⟩)]⟩:AS)) (fun i=>(i≤vs.length)) (fun i=>(vs.length-i)) (0) ?_ (eJ [.sm 17 29,.loose 29,.aa [19,18,11,4,3,2,0,20,5] [29]] [] [29] [yB ([ai 5,aw (u64 (↑(af df vs).length:Int)),AV.val (Value.string (ByteArray.mk #[]))]=af aY (bC (u64 (↑vs.length:Int))::(List.take 0 vs).flatten)) (by rw [sQ];rfl)]) ?_)
 ·omega
 intro i hi
 have VU:=xF (vs:=vs.take i) (n:=20) (fun v hm=>hv.each v (List.mem_of_mem_take hm)) (by rw [List.length_take];omega)
 have Qp:(af aY (bC (u64 vs.length)::(vs.take i).flatten)).length≤1203:=by rw [aE (e:=3) (fun _=>rfl),List.length_cons];omega
 have KB:(bC (u64 vs.length)::(vs.take i).flatten).length≤401:=by rw [List.length_cons];omega
 refine zq<|zS (zD 21 ((↑i:Int)<(↑(af df vs).length:Int)) (fun h=>?_) (fun h=>?_))
 ·have dD:i<vs.length:=aj
  have gT:=D0 dD
  have hm:vs.getD i default∈vs:=by rw [List.getD_eq_getElem?_getD,List.getElem?_eq_getElem dD];exact List.getElem_mem dD
  have he:=hv.each _ hm
  have MP:(af aY (vs.getD i default)).length≤60:=by rw [aE (e:=3) (fun _=>rfl)];omega
  have es:af aY (bC (u64 vs.length)::(vs.take i).flatten)++af aY (vs.getD i default)=af aY (bC (u64 vs.length)::(vs.take (i+1)).flatten):=by
   have ef:(vs.take (i+1)).flatten=(vs.take i).flatten++vs.getD i default:=by
    rw [List.take_succ_eq_append_getElem dD,List.flatten_append,List.getD_eq_getElem?_getD,List.getElem?_eq_getElem dD]
    simp
   rw [fB,ef];rfl
  refine a7<|zS<|zB 1<|zP 1 [yH [(0,{k:=i}),(1,yV (AV.sl 3 (af aY (vs.getD i default))))]] [.aa [7,21,19,18,11,4,3,2,0,20,5] [29]] [yR (↑i:Int),yO (i<(af df vs).length),yI gT]<|zS<|zP 1 [yH [(1,{k:=(bC (u64 (↑vs.length:Int))::(List.take i vs).flatten).length})]] [.aa [26,7,21,19,18,11,4,3,2,0,20,5] [29]] [yB ((af aY (bC (u64 (↑vs.length:Int))::(List.take i vs).flatten)).length=(bC (u64 (↑vs.length:Int))::(List.take i vs).flatten).length*3) (by simp only [aE (f:=aY) (e:=3) (fun _=>rfl)])]<|dp 26 ((↑(bC (u64 (↑vs.length:Int))::(List.take i vs).flatten).length:Int)>512)<|a7<|zX (yH [(2,{b:=false})]) [yB (cH (af aY (vs.getD i default))) (dG (fun x=>wh x) _),yO (((af aY (bC (u64 (↑vs.length:Int))::(List.take i vs).flatten)).length+(af aY (vs.getD i default)).length)*32≤422212465065984)]<|aL<|ak<|zX (yH [(0,yV (ai ((↑i:Int)+1)))]) [yN ((↑i:Int)+1)] (aH (i+1) (by assumption) aj (eJ [.aa [19,18,11,4,3,2,0,20,5] [29]] [] [29] [yI es]))
 ·have e2:i=vs.length:=aj
  subst e2
  rw [List.take_length]
  refine zE 0<|a_<|aP<|bo<|ak<|zP 1 [yH [(1,{av:=some (AV.br [AV.sl 3 (af aY (bC (u64 (↑vs.length:Int))::vs.flatten)),ai 0]),b:=false})]] [.aa [3,2,21,19,18,11,4,0,20,5] []] [yI (Bh (bC (u64 (↑vs.length:Int))::vs.flatten) (by assumption) (by assumption) (by assumption) (by assumption))]<|zR (bU)
structure eM (x:fE):Prop where
 kind:x.kind=1∨x.kind=3∨x.kind=4
 TQ:gV x=true
 cK:x.cK.length≤1024
 acc:qq x=0
theorem eM.uint (n:UInt64):eM (aF n):=⟨.inl rfl,rfl,Nat.zero_le _,rfl⟩
theorem eM.byte {b:List UInt8} (h:b.length≤1024):eM (dQ b):=⟨.inr (.inl rfl),rfl,h,rfl⟩
theorem eM.text {b:List UInt8} (h:b.length≤1024) (hv:Lib.validD b=true):eM (cy b):=⟨.inr (.inr rfl),rfl,h,by
 unfold qq
 rw [if_neg]
 rintro ⟨-,q⟩
 have q:Lib.validD b=false:=q
 rw [hv] at q;cases q⟩
theorem sO {fr:List Int} {c:Nat} {x:fE} (h:eM x) (h1:c=0∨fr.length≠0) (h2:c<512) (h3:fr.length≤8):mM fr c x=0:=by
 have hk:=h.kind
 have ha:fh c fr.length x.kind=0:=by unfold fh;rw [if_neg aj,if_neg aj,if_neg aj]
 have hd:=h.cK
 unfold mM
 rw [if_neg aj,if_neg aj,if_neg (by rw [h.TQ];decide),if_neg aj,if_neg aj]
 exact h.acc
theorem GA {x:fE} (h:eM x) (k:Int):lH [k] x=if k=1 then [] else [k-1]:=by
 have hk:=h.kind
 have hp:lq x (mz [k])= [k-1]:=by
  unfold lq
  rw [if_neg aj]
  rfl
 unfold lH
 rw [hp]
 unfold oV
 by_cases e:k=1
 ·subst e;rfl
 ·rw [if_neg e]
  have:lr [k-1] 1=1:=by
   show (if ([k-1]:List Int).getD 0 0=0 then _ else _)=_
   rw [if_neg]
   show ¬(k-1=0)
   omega
  show List.take (lr [k-1] 1) [k-1]=_
  rw [this];rfl
theorem JR {x:fE} (h:eM x):lH [] x= []:=by
 have hk:=h.kind
 unfold lH lq
 rw [if_neg aj]
 rfl
theorem DE {n:UInt64} (h:0<wv n):lH [] (bC n)= [wv n]:=by
 have hp:lq (bC n) (mz [])= [wv n]:=if_pos ⟨rfl,h⟩
 unfold lH
 rw [hp]
 have:lr [wv n] 1=1:=by
  show (if ([wv n]:List Int).getD 0 0=0 then _ else _)=_
  rw [if_neg]
  show ¬(wv n=0)
  omega
 unfold oV
 show List.take (lr [wv n] 1) [wv n]=_
 rw [this];rfl
theorem y_ {x:fE} (h:eM x):eN [x]=0:=by
 have h0:vE [x] 0=0:=sO h (.inl rfl) (by decide) (Nat.zero_le _)
 have hf:ff (vE [x]) 1=0:=by show (if _ then _ else _)=_;rw [if_neg (by show ¬(0:Int)≠0;decide)];exact h0
 have hv:vF [x] 1= []:=JR h
 unfold eN
 show (if ff (vE [x]) 1≠0 then ff (vE [x]) 1 else if 0<1∧(vF [x] 1).length=0 then 0 else 1)=(0:Int)
 rw [if_neg aj,if_pos ⟨by decide,by rw [hv];rfl⟩]
section
variable {n:UInt64} {xs:List fE} (hx:∀x∈xs,eM x) (hn:wv n=xs.length) (h1:1≤xs.length) (h2:xs.length≤100)
include hx hn h1 h2
theorem BA:∀j,j≤xs.length->vF (bC n::xs) (j+1)=if j=xs.length then [] else [(xs.length:Int)-j]
 | 0,_=>by
  rw [if_neg aj]
  show lH [] (bC n)=_
  rw [DE aj,hn];simp
 | j+1,hj=>by
  have ih:=BA j aj
  rw [if_neg aj] at ih
  have hm:(bC n::xs).getD (j+1) default∈xs:=by
   show xs.getD j default∈xs
   rw [List.getD_eq_getElem?_getD,List.getElem?_eq_getElem aj];exact List.getElem_mem aj
  show lH (vF (bC n::xs) (j+1)) ((bC n::xs).getD (j+1) default)=_
  rw [ih,GA (hx _ hm)]
  by_cases e:j+1=xs.length
  ·rw [if_pos aj,if_pos e]
  ·rw [if_neg aj,if_neg e]
   congr 1
   omega
theorem L9 (j:Nat) (hj:j≤xs.length):vE (bC n::xs) j=0:=by
 cases j with
 | zero =>
  show mM [] 0 (bC n)=0
  unfold mM
  rw [if_neg aj,if_neg (by show ¬fh 0 0 5≠0;decide),if_neg (by show ¬gV (bC n)=false;have:gV (bC n)=true:=rfl;rw [this];decide),if_neg (by show ¬1024<0;decide),if_neg (by rintro ⟨-,q⟩;have q:512<wv n:=q;omega)]
  rfl
 | succ j =>
  have hm:(bC n::xs).getD (j+1) default∈xs:=by
   show xs.getD j default∈xs
   rw [List.getD_eq_getElem?_getD,List.getElem?_eq_getElem aj];exact List.getElem_mem aj
  have e:=BA hx hn h1 h2 j aj
  rw [if_neg aj] at e
  show mM (vF (bC n::xs) (j+1)) (j+1) ((bC n::xs).getD (j+1) default)=0
  rw [e]
  exact sO (hx _ hm) (.inr (by simp)) aj (by simp)
theorem Ix:∀j,j≤xs.length+1->ff (vE (bC n::xs)) j=0
 | 0,_=>rfl
 | j+1,hj=>by
  show (if _ then _ else _)=_
  rw [if_neg (by rw [Ix j aj];decide)]
  exact L9 hx hn h1 h2 j aj
theorem Dv:eN (bC n::xs)=0:=by
 have hf:=Ix hx hn h1 h2 (xs.length+1) (Nat.le_refl _)
 have hv:=BA hx hn h1 h2 xs.length (Nat.le_refl _)
 rw [if_pos rfl] at hv
 unfold eN
 show (if ff (vE (bC n::xs)) (xs.length+1)≠0 then _ else if 0<xs.length+1∧(vF (bC n::xs) (xs.length+1)).length=0 then 0 else 1)=(0:Int)
 rw [if_neg aj,if_pos ⟨aj,by rw [hv];rfl⟩]
end
theorem oW {xs:List fE} (hx:∀x∈xs,eM x) (h1:1≤xs.length) (h2:xs.length≤20):Jp (xs.map fun x=>[x])∧ff (ot (xs.map fun x=>[x])) (xs.map fun x=>[x]).length=0∧eN (ph (xs.map fun x=>[x]))=0∧ph (xs.map fun x=>[x])=bC (u64 xs.length)::xs:=by
 have vh:(xs.map fun x=>[x]).flatten=xs:=by
  clear hx h1 h2
  induction xs with
  | nil=>rfl
  | cons x l ih=>rw [List.map_cons,List.flatten_cons,ih];rfl
 have ha:ph (xs.map fun x=>[x])=bC (u64 xs.length)::xs:=by unfold ph;rw [vh,List.length_map]
 have qX:∀v∈xs.map fun x=>[x],∃x∈xs,v= [x]:=fun v hv=>by
  obtain ⟨x,hm,e⟩:=List.mem_map.1 hv
  exact ⟨x,hm,e.symm⟩
 refine ⟨⟨by rw [List.length_map];exact h2,fun v hv=>?_,fun v hv x NL=>?_,fun v hv x NL=>?_⟩,?_,?_,ha⟩
 ·obtain ⟨x,-,rfl⟩:=qX v hv;simp
 ·obtain ⟨y,hy,rfl⟩:=qX v hv
  have:=List.mem_singleton.1 NL
  subst this
  rcases (hx _ hy).kind with q|q|q
  ·exact .inl q
  ·exact .inr (.inl q)
  ·exact .inr (.inr (.inl q))
 ·obtain ⟨y,hy,rfl⟩:=qX v hv
  have:=List.mem_singleton.1 NL
  subst this
  have:=(hx _ hy).cK
  omega
 ·have:∀j,j≤(xs.map fun x=>[x]).length->ff (ot (xs.map fun x=>[x])) j=0:=by
   intro j
   induction j with
   | zero=>intro _;rfl
   | succ j ih =>
    intro hj
    show (if _ then _ else _)=_
    rw [if_neg (by rw [ih aj];decide)]
    have xK:j<xs.length:=by rw [List.length_map] at hj;omega
    show eN ((xs.map fun x=>[x]).getD j default)=0
    rw [List.getD_eq_getElem?_getD,List.getElem?_map,List.getElem?_eq_getElem xK]
    exact y_ (hx _ (List.getElem_mem xK))
  exact this _ (Nat.le_refl _)
 ·rw [ha]
  refine Dv hx ?_ h1 aj
  rw [qw];omega
def lh:List Int->Nat->List fE->Option (List Int)
 | fr,_,[]=>some fr
 | fr,c,x::l=>if mM fr c x=0 then lh (lH fr x) (c+1) l else none
theorem m9:∀(l m:List fE) (fr:List Int) (c:Nat),lh fr c (l++m)=(lh fr c l).bind fun f=>lh f (c+l.length) m
 | [],m,fr,c=>rfl
 | x::l,m,fr,c=>by
  show (if mM fr c x=0 then lh (lH fr x) (c+1) (l++m) else none)=(if mM fr c x=0 then lh (lH fr x) (c+1) l else none).bind _
  split
  ·rw [m9 l m,show c+1+l.length=c+(x::l).length by rw [List.length_cons];omega]
  ·rfl
theorem DH (l:List fE):∀n,n≤l.length-> ∀fr,lh [] 0 (l.take n)=some fr->vF l n=fr∧ff (vE l) n=0
 | 0,_,fr,h=>⟨by injection h,rfl⟩
 | n+1,hn,fr,h=>by
  have e:l.take (n+1)=l.take n++ [l.getD n default]:=by
   rw [List.take_add_one,List.getD_eq_getElem?_getD,List.getElem?_eq_getElem aj];rfl
  rw [e,m9] at h
  cases h1:lh [] 0 (l.take n) with
  | none=>rw [h1] at h;cases h
  | some g =>
   obtain ⟨i1,i2⟩:=DH l n aj g h1
   rw [h1] at h
   have h:(if mM g (0+(l.take n).length) (l.getD n default)=0 then some (lH g (l.getD n default)) else none)=some fr:=h
   rw [List.length_take,Nat.min_eq_left aj,Nat.zero_add] at h
   split at h
   ·rename_i q
    injection h with h
    exact ⟨by show lH (vF l n) _=_;rw [i1,h],by show (if _ then _ else _)=_;rw [if_neg aj];show mM (vF l n) n _=0;rw [i1];exact q⟩
   ·cases h
theorem JO {l:List fE} (h0:0<l.length) (h:lh [] 0 l=some []):eN l=0:=by
 obtain ⟨h1,h2⟩:=DH l l.length (Nat.le_refl _) [] (by rw [List.take_length];exact h)
 unfold eN
 rw [if_neg aj,if_pos ⟨h0,by rw [h1];rfl⟩]
theorem q9 (f:List Int) (k:Int):(f++ [k]).getD ((f++ [k]).length-1) 0=k:=by
 rw [List.length_append,show f.length+ [k].length-1=f.length from Nat.add_sub_cancel ..]
 simp [List.getD_eq_getElem?_getD]
theorem wN (f:List Int) (k:Int):mz (f++ [k])=f++ [k-1]:=by
 unfold mz
 rw [if_neg (by simp),q9,List.length_append,show f.length+ [k].length-1=f.length from Nat.add_sub_cancel ..]
 simp
theorem qL (f:List Int) {k:Int} (h:k≠0):oV (f++ [k])=f++ [k]:=by
 unfold oV
 have:lr (f++ [k]) (f++ [k]).length=(f++ [k]).length:=by
  rw [show (f++ [k]).length=f.length+1 by simp]
  show (if (f++ [k]).getD f.length 0=0 then _ else _)=_
  have:=q9 f k
  rw [show (f++ [k]).length-1=f.length by simp] at this
  rw [this,if_neg h]
 rw [this,List.take_length]
theorem Ad (f g:List Int):∀n,n≤f.length->lr (f++g) n=lr f n
 | 0,_=>rfl
 | n+1,h=>by
  show (if (f++g).getD n 0=0 then lr (f++g) n else n+1)=(if f.getD n 0=0 then lr f n else n+1)
  rw [Ad f g n aj,List.getD_eq_getElem?_getD,List.getD_eq_getElem?_getD,List.getElem?_append_left aj]
theorem DP (f:List Int):∀n,lr f n≤n
 | 0=>Nat.le_refl _
 | n+1=>by
  show (if f.getD n 0=0 then lr f n else n+1)≤_
  split
  ·have:=DP f n;omega
  ·exact Nat.le_refl _
theorem E4 (f:List Int):oV (f++ [0])=oV f:=by
 unfold oV
 have:lr (f++ [0]) (f++ [0]).length=lr f f.length:=by
  rw [show (f++ [(0:Int)]).length=f.length+1 by simp]
  show (if (f++ [(0:Int)]).getD f.length 0=0 then lr (f++ [0]) f.length else _)=_
  have:=q9 f 0
  rw [show (f++ [(0:Int)]).length-1=f.length by simp] at this
  rw [if_pos this,Ad f [0] _ (Nat.le_refl _)]
 rw [this,List.take_append_of_le_length (DP f _)]
theorem DD {x:fE} (h:eM x) (f:List Int) (k:Int):lH (f++ [k]) x=if k=1 then oV f else f++ [k-1]:=by
 have hk:=h.kind
 unfold lH lq
 rw [if_neg aj,wN]
 by_cases e:k=1
 ·rw [if_pos e,e];exact E4 f
 ·rw [if_neg e];exact qL f aj
theorem Mc (f:List Int) (k:Int) {n:UInt64} (h:0<wv n):lH (f++ [k]) (bC n)=f++ [k-1]++ [wv n]:=by
 unfold lH lq
 rw [if_pos ⟨rfl,h⟩,wN]
 have h':wv n≠0:=aj
 exact qL _ h'
theorem HE {fr:List Int} {c:Nat} {n:UInt64} (h1:c=0∨fr.length≠0) (h2:c<512) (h3:fr.length≤8) (hn:wv n≤512):mM fr c (bC n)=0:=by
 have ha:fh c fr.length 5=0:=by unfold fh;rw [if_neg aj,if_neg aj,if_neg aj]
 unfold mM
 rw [if_neg aj,if_neg (by show ¬fh c fr.length 5≠0;omega),if_neg (by show ¬gV (bC n)=false;have:gV (bC n)=true:=rfl;rw [this];decide),if_neg (by show ¬1024<0;decide),if_neg (by rintro ⟨-,q⟩;have q:512<wv n:=q;omega)]
 rfl
theorem tD {f:List Int} (hf:f.length≤6):∀ {xs:List fE} {k:Int} {c:Nat},(∀x∈xs,eM x)->(xs.length:Int)<k->c+xs.length≤500->lh (f++ [k]) c xs=some (f++ [k-xs.length])
 | [],k,c,_,_,_=>by show some (f++ [k])=some (f++ [k-((0:Nat):Int)]);simp
 | x::xs,k,c,hx,hk,hc=>by
  have N9:c+(xs.length+1)≤500:=hc
  have Bt:((xs.length+1:Nat):Int)<k:=hk
  have hl:=hx x (List.mem_cons_self ..)
  show (if mM (f++ [k]) c x=0 then lh (lH (f++ [k]) x) (c+1) xs else none)=_
  rw [if_pos (sO hl (.inr (by simp)) aj (by simp;omega)),DD hl,if_neg aj,tD hf (fun y hy=>hx y (List.mem_cons_of_mem _ hy)) aj aj]
  show some (f++ [k-1-(xs.length:Int)])=some (f++ [k-((xs.length+1:Nat):Int)])
  rw [show k-((xs.length+1:Nat):Int)=k-1-xs.length by omega]
theorem tE {f:List Int} (hf:f.length≤6):∀ {xs:List fE} {c:Nat},(∀x∈xs,eM x)->0<xs.length->c+xs.length≤500->lh (f++ [(xs.length:Int)]) c xs=some (oV f)
 | [],_,_,h,_=>by cases h
 | x::xs,c,hx,_,hc=>by
  have N9:c+(xs.length+1)≤500:=hc
  have hl:=hx x (List.mem_cons_self ..)
  show (if mM (f++ [((xs.length+1:Nat):Int)]) c x=0 then lh (lH (f++ [((xs.length+1:Nat):Int)]) x) (c+1) xs else none)=_
  rw [if_pos (sO hl (.inr (by simp)) aj (by simp;omega)),DD hl]
  by_cases e:xs.length=0
  ·rw [if_pos aj,List.eq_nil_of_length_eq_zero e];rfl
  ·rw [if_neg aj,show ((xs.length+1:Nat):Int)-1=xs.length by omega]
   exact tE hf (fun y hy=>hx y (List.mem_cons_of_mem _ hy)) aj aj
theorem vY {f:List Int} (hf:f.length≤4) {xs:List fE} {k:Int} {c:Nat} {n:UInt64} (hx:∀x∈xs,eM x) (hn:wv n=xs.length) (h1:0<xs.length) (hk:1<k) (hc:c+xs.length≤400):lh (f++ [k]) c (bC n::xs)=some (f++ [k-1]):=by
 show (if mM (f++ [k]) c (bC n)=0 then lh (lH (f++ [k]) (bC n)) (c+1) xs else none)=_
 rw [if_pos (HE (.inr (by simp)) aj (by simp;omega) aj),Mc _ _ aj,hn,tE (by simp;omega) hx h1 aj,qL _ aj]
theorem GM {n:UInt64} (l:List fE) (h:0<wv n) (h2:wv n≤512):lh [] 0 (bC n::l)=lh ([]++ [wv n]) 1 l:=by
 show (if mM [] 0 (bC n)=0 then lh (lH [] (bC n)) 1 l else none)=_
 rw [if_pos (HE (.inl rfl) aj (by simp) h2),DE h];rfl
def bz (h:Int):Prop:=h<0∨4<h
instance (h:Int):Decidable (bz h):=inferInstanceAs (Decidable (_∨_))
theorem g_ (h:Int):bK Tryz.prog 87 [ai h] (ao (decide (bz h))):=by
 by_cases h1:h<0
 ·have e:decide (bz h)=true:=decide_eq_true (.inl h1)
  refine zO Tryz.func87 9<|zP 2 [{},{}] [.aa [2,0] []] (yM 3 (yT (h<0)))<|zR (zV [yB (Value.bool true=Value.bool (decide (bz h))) (by rw [e])])
 ·by_cases h2:h>4
  ·have e:decide (bz h)=true:=decide_eq_true (.inr h2)
   refine zO Tryz.func87 9<|zP 2 [{},yH ([(5,{b:=false})]++yg [3,4])] [.aa [2,0] []] (yM 3 (yF (h<0)))<|zR (zV [yB (Value.bool (decide (h>4))=Value.bool (decide (bz h))) (by rw [e,decide_eq_true h2])])
  ·have e:decide (bz h)=false:=decide_eq_false (by rintro (h|h)<;>omega)
   refine zO Tryz.func87 9<|zP 2 [{},yH ([(5,{b:=false})]++yg [3,4])] [.aa [2,0] []] (yM 3 (yF (h<0)))<|zR (zV [yB (Value.bool (decide (h>4))=Value.bool (decide (bz h))) (by rw [e,decide_eq_false h2])])
theorem ck (h:Int):bK Tryz.prog 91 [ai h] (ao (!decide (bz h))):=by
 by_cases h1:h<0
 ·have e:decide (bz h)=true:=decide_eq_true (.inl h1)
  refine zO Tryz.func91 9<|zP 2 [{},yH ([(5,{b:=false})]++yg [3,4])] [.aa [2,0] []] (yM 3 (yF (h≥0)))<|zR (zV [yB (Value.bool false=Value.bool !decide (bz h)) (by rw [e];rfl)])
 ·by_cases h2:h>4
  ·have e:decide (bz h)=true:=decide_eq_true (.inr h2)
   refine zO Tryz.func91 9<|zP 2 [{},{}] [.aa [2,0] []] (yM 3 (yT (h≥0)))<|zR (zV [yB (Value.bool (decide (h≤4))=Value.bool !decide (bz h)) (by rw [e,decide_eq_false aj];rfl)])
  ·have e:decide (bz h)=false:=decide_eq_false (by rintro (h|h)<;>omega)
   refine zO Tryz.func91 9<|zP 2 [{},{}] [.aa [2,0] []] (yM 3 (yT (h≥0)))<|zR (zV [yB (Value.bool (decide (h≤4))=Value.bool !decide (bz h)) (by rw [e,decide_eq_true aj];rfl)])
def eT (h:Int):Int:=if bz h then 9 else 0
def dc (h:Int) (r:UInt64):List UInt8:=if bz h then [] else u8 h::words [r]
def gO (lv:Int) (a b:UInt64):UInt64:=hash 3 (words [u64 lv,a,b])
theorem oX (lv:Int) (a b:UInt64):bK Tryz.prog 144 [ai lv,aw a,aw b] (aw (gO lv a b)):=by
 refine zO Tryz.func144 14<|zP 2 [{},yH [(1,yV (aw (u64 lv))),(4,yV (AV.arr (ah [u64 lv,a,b]))),(5,yV (AV.own 1 (ag (words [u64 lv,a,b])))),(6,yV (aw (hash (3:Int) (words [u64 lv,a,b]))))]] [.aa [6,0,1,2] []] [yI (a8 lv),yR (ah [u64 lv,a,b]),yI (lD [u64 lv,a,b] (by simp only [List.length_cons,List.length_nil];omega)),yI (aQ (words [u64 lv,a,b])),yI (nv ((3:Int)) (words [u64 lv,a,b]))]<|zR (bU)
theorem lk (lv:Int) (a b:UInt64):bK Tryz.prog 115 [ai lv,aw a,aw b] (aw (gO lv a b)):=by
 refine zO Tryz.func115 14<|zP 2 [{},yH [(1,yV (aw (u64 lv))),(4,yV (AV.arr (ah [u64 lv,a,b]))),(5,yV (AV.own 1 (ag (words [u64 lv,a,b])))),(6,yV (aw (hash (3:Int) (words [u64 lv,a,b]))))]] [.aa [6,0,1,2] []] [yI (a8 lv),yR (ah [u64 lv,a,b]),yI (dv [u64 lv,a,b] (by simp only [List.length_cons,List.length_nil];omega)),yI (aQ (words [u64 lv,a,b])),yI (iy ((3:Int)) (words [u64 lv,a,b]) (by simp only [List.length_cons,List.length_nil,dN];omega))]<|zR (bU)
def fV (seed:UInt64):Nat->Nat->UInt64
 | 0,i=>combine i (bG seed i 18)
 | lv+1,i=>gO ((lv+1:Nat):Int) (fV seed lv (2*i)) (fV seed lv (2*i+1))
theorem rM (seed:UInt64) (lv:Nat):∀(i:Nat),lv≤4->i<2^(40-lv)->bK Tryz.prog 103 [aw seed,ai lv,ai i] (aw (fV seed lv i)):=by
 induction lv with
 | zero =>
  intro i _ hi
  refine zO Tryz.func103 27<|zq<|zS<|zq<|dr 8 ((↑(0:Nat):Int) == (0:Int)) fi<|zP 1 [yH [(2,yV (aw (combine (↑i:Int) (bG seed (↑i:Int) 18))))]] [.aa [6,8,0,1,2] []] [yI (zY seed ((↑i:Int)))]<|dt (bU)
 | succ lv ih =>
  intro i hl hi
  have e:2^(40-lv)=2*2^(40-(lv+1)):=by rw [show 40-lv=40-(lv+1)+1 by omega,Nat.pow_succ,Nat.mul_comm]
  have hp:2^(40-(lv+1))≤2^40:=Nat.pow_le_pow_right (by decide) aj
  obtain ⟨j,hj⟩:∃j:Nat,2*i=j:=⟨_,rfl⟩
  obtain ⟨j2,xK⟩:∃j2:Nat,2*i+1=j2:=⟨_,rfl⟩
  have h1:=ih j aj aj
  have h2:=ih j2 aj aj
  clear ih
  generalize 2^(40-lv)=p1 at *
  generalize 2^(40-(lv+1))=p2 at *
  have ew:fV seed (lv+1) i=gO ((lv+1:Nat):Int) (fV seed lv j) (fV seed lv j2):=by rw [←hj,←xK];rfl
  rw [ew]
  generalize fV seed lv j=n1 at *
  generalize fV seed lv j2=n2 at *
  have e1:IntKind.i64.wrap (((lv+1:Nat):Int)-1)=(lv:Int):=by rw [IntKind.wrap_i64];omega
  have e2:IntKind.i64.wrap (2*(i:Int))=(j:Int):=by rw [IntKind.wrap_i64];omega
  have e3:IntKind.i64.wrap ((j:Int)+1)=(j2:Int):=by rw [IntKind.wrap_i64];omega
  refine zO Tryz.func103 27<|zq<|zS<|zq<|bj 8 ((↑(lv+1):Int) == (0:Int)) bE<|a7<|zP 1 [yH [(3,yV (ai ↑lv)),(5,yV (ai ↑j)),(6,yV (aw n1)),(9,yV (ai ↑lv)),(11,yV (ai ↑j)),(12,yV (ai ↑j2)),(13,yV (aw n2)),(14,yV (aw (gO (↑(lv+1):Int) n1 n2)))]] [.aa [6,8,0,1,2] []] [yI (yc e1),yI (yc e2),yI h1,yI (yc e1),yI (yc e2),yI (yc e3),yI h2,yI (lk (↑(lv+1):Int) n1 n2)]<|zR (bU)
end Go.Proofs.YtjgbhhnghedgdaaGreatDoor
