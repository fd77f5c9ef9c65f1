import Derived.Test.YtjgbhhnghedgdaaGreatDoorZaCb2
set_option linter.all false
namespace Go.Proofs.YtjgbhhnghedgdaaGreatDoor
open Go.RowKit
set_option maxRecDepth 100000
set_option maxHeartbeats 4000000
instance:Inhabited fE:=⟨⟨0,0,[]⟩⟩
def vF (l:List fE):Nat->List Int
 | 0=>[]
 | n+1=>lQ (vF l n) (l.getD n default)
def vE (l:List fE) (i:Nat):Int:=mW (vF l i) i (l.getD i default)
def eP (l:List fE):Int:=if ff (vE l) l.length≠0 then ff (vE l) l.length else if 0<l.length∧(vF l l.length).length=0 then 0 else 1
theorem Kg (fr:List Int) (x:fE):(lQ fr x).length≤fr.length+1:=by
 unfold lQ o_
 have h:=Aq x (mI fr)
 rw [Bp] at h
 rw [List.length_take];omega
theorem GU (l:List fE):∀n,(vF l n).length≤n
 | 0=>Nat.le_refl _
 | n+1=>by
  have:=GU l n
  have:=Kg (vF l n) (l.getD n default)
  show (lQ _ _).length≤_
  omega
theorem LO {l:List fE}:∀ {n:Nat},(∀j,j<n->(l.getD j default).kind=5->wv (l.getD j default).num≤512)-> ∀k∈vF l n,-(n:Int)≤k∧k≤512
 | 0,_,k,hk=>by cases hk
 | n+1,h,k,hk=>by
  have ih:=LO (l:=l) (n:=n) (fun j hj=>h j ah)
  have h5:=h n ah
  have hk:k∈o_ (lz (l.getD n default) (mI (vF l n))):=hk
  have hk:=List.mem_of_mem_take hk
  have hd:∀k∈mI (vF l n),-((n+1:Nat):Int)≤k∧k≤512:=by
   intro k hk
   unfold mI at hk
   split at hk
   ·have:=ih k hk;omega
   ·rename_i h0
    have hm:=ih ((vF l n).getD ((vF l n).length-1) 0) (by rw [List.getD_eq_getElem?_getD,List.getElem?_eq_getElem ah];exact List.getElem_mem ah)
    rcases List.mem_or_eq_of_mem_set hk with q|q
    ·have:=ih k q;omega
    ·omega
  unfold lz at hk
  split at hk
  ·rename_i hx
   rcases List.mem_append.1 hk with q|q
   ·exact hd k q
   ·have e:=List.mem_singleton.1 q
    have:=h5 hx.1
    omega
  ·exact hd k hk
theorem KP {fr:List Int} {c:Nat} {x:fE} (h:mW fr c x=0) (h5:x.kind=5):wv x.num≤512:=by
 apply Classical.byContradiction
 intro q
 unfold mW at h
 split at h
 ·omega
 ·split at h
  ·rename_i q2;exact q2 h
  ·split at h
   ·omega
   ·split at h
    ·omega
    ·rw [if_pos ⟨h5,ah⟩] at h;omega
theorem ye {f:Nat->Int}:∀ {n:Nat},ff f n=0-> ∀j,j<n->f j=0
 | 0,_,j,hj=>by omega
 | n+1,h,j,hj=>by
  have h1:ff f n=0:=by
   apply Classical.byContradiction
   intro q
   have:ff f (n+1)=ff f n:=by show (if _ then _ else _)=_;rw [if_pos q]
   omega
  have h2:f n=0:=by
   have:ff f (n+1)=f n:=by show (if _ then _ else _)=_;rw [if_neg ah]
   omega
  by_cases e:j=n
  ·subst e;exact h2
  ·exact ye h1 j ah
theorem iJ (l:List fE) (hl:l.length≤500) (hk:∀x∈l,eM x.kind) (hd:∀x∈l,x.cI.length≤1000000):bK Tryz.prog 127 [.sl 3 (af aU l)] (ai (eP l)):=by
 have s6:(af aU l).length=l.length*3:=aF (e:=3) (fun _=>rfl) ..
 refine zO Tryz.func127 22<|zQ 2 [{},{}] []<|bf.oR (bS.Lz 3 0 99 3 (r:=⟨1,false,true,[.nil,ai 0]⟩) bh rfl rfl bh)<|zS<|zQ 1 [yH [(1,{k:=l.length})]] [yI s6]<|zB 0 (zL (fun (i:Nat)=>(⟨[(8,ai (↑l.length:Int)),(7,AV.sl 3 (af aU l)),(3,AV.addr 3 0),(0,AV.sl 3 (af aU l)),(9,ai i)],[(3,⟨1,false,true,[.ref 99,ai i]⟩),(99,⟨3,true,false,af bz (vF l i)⟩)]⟩:AS)) (fun i=>(i≤l.length∧ff (vE l) i=0)) (fun i=>(l.length-i)) (0) ?_ (zW [.ae [8,7,3,0,9] [3,99]]) ?_)
 ·exact ⟨ah,rfl⟩
 rintro i ⟨hi,h0⟩
 have sH:=GU l i
 have gi:=ye h0
 have m9:=LO (l:=l) (n:=i) (fun j hj h5=>KP (gi j hj) h5)
 have gw:∀k∈vF l i,-1000≤k∧k≤1000:=fun k hm=>by have:=m9 k hm;omega
 have PV:(vF l i).length≤1000:=ah
 clear gi m9 sH
 refine zq<|zS (zD 10 ((↑i:Int)<(↑l.length:Int)) (fun h=>?_) (fun h=>?_))
 ·have dz:i<l.length:=ah
  have hm:l.getD i default∈l:=by rw [List.getD_eq_getElem?_getD,List.getElem?_eq_getElem dz];exact List.getElem_mem dz
  have QQ:=hk _ hm
  have QV:=hd _ hm
  by_cases e:mW (vF l i) i (l.getD i default)=0
  ·have dP:=FB (vF l i) i (l.getD i default) e QQ PV gw ah QV
   have k2:ff (vE l) (i+1)=0:=by show (if _ then _ else _)=_;rw [if_neg ah];exact e
   refine a_<|zS<|zB 1<|zP 3 [yH [(0,{k:=i}),(1,yV (AV.agg (aU (l.getD i default))))],yH [(1,{av:=some (ai 0),ln:=[(3,1000000000000),(99,5)],ho:=[(1000000000000,Row.mk 1 false true [AV.ref 5,ai (↑(i+1):Int)]),(5,Row.mk 3 true false (af bz (lQ (vF l i) (l.getD i default))))]})],{}] [.ae [16,6,5,10,8,7,3,0,9] [3,99,5]] [yR (↑i:Int),yO (i*3<(af aU l).length),yu aU l i 0 3,yR 3,yL 3 3,yI dP,yB ([AV.ref 99,ai ↑i].length= [AV.ref 5,ai (↑(i+1):Int)].length∧0< [AV.ref 5,ai (↑(i+1):Int)].length) ⟨rfl,Nat.succ_pos _⟩]<|zF 16<|zK<|aM<|ak<|zX (yH [(0,yV (ai ((↑i:Int)+1)))]) [yN ((↑i:Int)+1)] (aJ (i+1) ⟨ah,k2⟩ ah (zW [.ae [8,7,3,0,9] [3,99]]))
  ·have dP:=Cp (vF l i) i (l.getD i default) e QQ PV ah QV
   have k2:ff (vE l) (i+1)=vE l i:=by show (if _ then _ else _)=_;rw [if_neg ah]
   have k3:=ld (E:=vE l) e k2 l.length ah
   have k4:eP l=mW (vF l i) i (l.getD i default):=by unfold eP;rw [if_pos (by rw [k3];exact e),k3]
   refine a_<|zS<|zB 1<|zP 3 [yH [(0,{k:=i}),(1,yV (AV.agg (aU (l.getD i default))))],yH [(1,{av:=some (ai (mW (vF l i) i (l.getD i default))),ln:=[(3,1000000000000),(99,5)],ho:=[(1000000000000,Row.mk 1 false true [AV.ref 5,ai ↑i]),(5,Row.mk 3 true false (af bz (vF l i)))]})],{}] [.ae [16,6,5,10,8,7,3,0,9] [3,99,5]] [yR (↑i:Int),yO (i*3<(af aU l).length),yu aU l i 0 3,yR 3,yL 3 3,yI dP,yB ([AV.ref 99,ai ↑i].length= [AV.ref 5,ai ↑i].length∧0< [AV.ref 5,ai ↑i].length) (by simp [e])]<|du 16 (mW (vF l i) i (l.getD i default) != (0:Int)) (by simp_all)<|zP 1 [{}] [.ae [2,16,6,5,10,8,7,3,0,9] [3,99,5]] []<|zR<|aY<|aI<|c_<|aY<|aI (zV [yJ (mW (vF l i) i (l.getD i default)) (eP l) (by rw [k4])])
 ·have e:i=l.length:=ah
  subst e
  by_cases Oy:0<l.length∧(vF l l.length).length=0
  ·have k4:eP l=0:=by unfold eP;rw [if_neg ah,if_pos Oy]
   refine zE 0<|a7<|aO<|bn<|ak<|zS<|zP 1 [yH [(1,{av:=some (ao (decide (0<l.length∧(vF l l.length).length=0))),ln:=[(3,1000000000000),(99,5)],ho:=[(1000000000000,Row.mk 1 false true [AV.ref 5,ai (↑l.length:Int)]),(5,Row.mk 3 true false (af bz (vF l l.length)))]}),(2,yV (ao false))]] [.ae [21,10,8,7,3,0,9] [3,99]] [yI (fW (vF l l.length) l.length ah),yB ([AV.ref 99,ai (↑l.length:Int)].length= [AV.ref 5,ai (↑l.length:Int)].length∧0< [AV.ref 5,ai (↑l.length:Int)].length) ⟨rfl,Nat.succ_pos _⟩,yB (ao (!decide (0<l.length∧(vF l l.length).length=0))=ao false) (by rw [decide_eq_true Oy];rfl)]<|zF 21<|a_<|zq<|zR (zV [yJ 0 (eP l) (by rw [k4])])
  ·have k4:eP l=1:=by unfold eP;rw [if_neg ah,if_neg Oy]
   refine zE 0<|a7<|aO<|bn<|ak<|zS<|zP 1 [yH [(1,{av:=some (ao (decide (0<l.length∧(vF l l.length).length=0))),ln:=[(3,1000000000000),(99,5)],ho:=[(1000000000000,Row.mk 1 false true [AV.ref 5,ai (↑l.length:Int)]),(5,Row.mk 3 true false (af bz (vF l l.length)))]}),(2,yV (ao true))]] [.ae [21,10,8,7,3,0,9] [3,99]] [yI (fW (vF l l.length) l.length ah),yB ([AV.ref 99,ai (↑l.length:Int)].length= [AV.ref 5,ai (↑l.length:Int)].length∧0< [AV.ref 5,ai (↑l.length:Int)].length) ⟨rfl,Nat.succ_pos _⟩,yB (ao (!decide (0<l.length∧(vF l l.length).length=0))=ao true) (by rw [decide_eq_false Oy];rfl)]<|zT 21<|zq<|dk (zV [yJ 1 (eP l) (by rw [k4])])
def oS (n:UInt64) (s q:Nat):List UInt8:=(List.range q).map fun j=>(n>>>UInt64.ofNat (8*(s-1-j))).toUInt8
def cG (m:UInt8) (n:UInt64):List UInt8 :=
 if wv n<24 then [m<<<5+n.toUInt8] else if wv n<256 then (m<<<5+24)::oS n 1 1 else if wv n<65536 then (m<<<5+25)::oS n 2 2 else if wv n<4294967296 then (m<<<5+26)::oS n 4 4 else (m<<<5+27)::oS n 8 8
theorem DR (n:UInt64) (s q:Nat):(oS n s q).length=q:=by simp [oS]
theorem G0 (n:UInt64) (s q:Nat):oS n s (q+1)=oS n s q++ [(n>>>UInt64.ofNat (8*(s-1-q))).toUInt8]:=by
 unfold oS
 rw [List.range_succ,List.map_append];rfl
def Kp (o:List UInt8):List (Nat×Row):=[(5,⟨1,true,false,ag o⟩)]
theorem n_ (o:List UInt8) (m:UInt8) (n:UInt64) (ho:o.length≤1000000):ga Tryz.prog 164 [.ref 5,ab m,aw n] (Kp o) (.own 1 (ag (o++cG m n))) (Kp []):=by
 have zb:(ag o).length=o.length:=aC o
 have V8:=LL n
 refine m5 Tryz.func164 58<|zP 3 [{},yH [(1,yV (ab (m<<<(5:UInt8))))],{}] [.ae [8,7,6,0,1,2] [5]] [yI (LG m ((5:Int)) ah ah),yO ((0:Int)≤5)] ?_
 by_cases h1:wv n<24
 ·have e:cG m n= [m<<<5+n.toUInt8]:=if_pos h1
  refine zS<|zB 0<|zP 1 [{}] [.ae [14,8,7,6,0,1,2] [5]] []<|gT 14 (wv n<24)<|zP 1 [yH [(3,yV (ab n.toUInt8)),(4,yV (ab (m<<<(5:UInt8)+n.toUInt8))),(5,yV (AV.arr (ag [m<<<(5:UInt8)+n.toUInt8]))),(6,yV (AV.arr (ag (o++ [m<<<(5:UInt8)+n.toUInt8]))))]] [.ae [6,14,8,7,1,2] [23]] [yR (ab n.toUInt8),yR (ab (m<<<(5:UInt8)+n.toUInt8)),yR [ab (m<<<(5:UInt8)+n.toUInt8)],yB (ag o++ag [m<<<(5:UInt8)+n.toUInt8]=ag (o++ [m<<<(5:UInt8)+n.toUInt8])) (cZ _ _),yO (((ag o).length+1)*1≤140737488355328)]<|bf.oR (bS.add 5 1 bh)<|zR<|aY<|aI (zG [] [yB (ag (o++ [m<<<(5:UInt8)+n.toUInt8])=ag (o++cG m n)) (by rw [e]),yB ([]=ag []) rfl])
 refine bf.oN (fun (t:UInt8×Nat)=>(⟨[(0,AV.ref 5),(1,ab m),(2,aw n),(7,ab t.1),(8,ai t.2)],[(5,⟨1,true,false,ag o⟩)]⟩:AS)) (fun t=>(cG m n=t.1::oS n t.2 t.2∧1≤t.2∧t.2≤8)) bh ?_ ?_
 ·by_cases h2:wv n<256
  ·have e:cG m n=(m<<<5+24)::oS n 1 1:=by unfold cG;rw [if_neg h1,if_pos h2]
   refine zB 0<|zP 1 [{}] [.ae [14,8,7,6,0,1,2] [5]] []<|dp 14 (wv n<24)<|zP 1 [{}] [.ae [24,14,8,7,6,0,1,2] [5]] []<|gT 24 (wv n<256)<|zX (yH [(1,yV (ab (m<<<(5:UInt8)+24)))]) [yR (ab (m<<<(5:UInt8)+24))]<|aM<|ak (⟨(m<<<5+24,1),(by refine ⟨?_,?_⟩<;>omega),(zW [.ae [0,1,2,7,8] [5]])⟩)
  by_cases h3:wv n<65536
  ·have e:cG m n=(m<<<5+25)::oS n 2 2:=by unfold cG;rw [if_neg h1,if_neg h2,if_pos h3]
   refine zB 0<|zP 1 [{}] [.ae [14,8,7,6,0,1,2] [5]] []<|dp 14 (wv n<24)<|zP 1 [{}] [.ae [24,14,8,7,6,0,1,2] [5]] []<|dp 24 (wv n<256)<|zP 1 [{}] [.ae [29,24,14,8,7,6,0,1,2] [5]] []<|gT 29 (wv n<65536)<|zX (yH [(1,yV (ab (m<<<(5:UInt8)+25)))]) [yR (ab (m<<<(5:UInt8)+25))]<|aM<|ak (⟨(m<<<5+25,2),(by refine ⟨?_,?_⟩<;>omega),(zW [.ae [0,1,2,7,8] [5]])⟩)
  by_cases h4:wv n<4294967296
  ·have e:cG m n=(m<<<5+26)::oS n 4 4:=by unfold cG;rw [if_neg h1,if_neg h2,if_neg h3,if_pos h4]
   refine zB 0<|zP 1 [{}] [.ae [14,8,7,6,0,1,2] [5]] []<|dp 14 (wv n<24)<|zP 1 [{}] [.ae [24,14,8,7,6,0,1,2] [5]] []<|dp 24 (wv n<256)<|zP 1 [{}] [.ae [29,24,14,8,7,6,0,1,2] [5]] []<|dp 29 (wv n<65536)<|zP 1 [{}] [.ae [34,29,24,14,8,7,6,0,1,2] [5]] []<|gT 34 (wv n<4294967296)<|zX (yH [(1,yV (ab (m<<<(5:UInt8)+26)))]) [yR (ab (m<<<(5:UInt8)+26))]<|aM<|ak (⟨(m<<<5+26,4),(by refine ⟨?_,?_⟩<;>omega),(zW [.ae [0,1,2,7,8] [5]])⟩)
  ·have e:cG m n=(m<<<5+27)::oS n 8 8:=by unfold cG;rw [if_neg h1,if_neg h2,if_neg h3,if_neg h4]
   refine zB 0<|zP 1 [{}] [.ae [14,8,7,6,0,1,2] [5]] []<|dp 14 (wv n<24)<|zP 1 [{}] [.ae [24,14,8,7,6,0,1,2] [5]] []<|dp 24 (wv n<256)<|zP 1 [{}] [.ae [29,24,14,8,7,6,0,1,2] [5]] []<|dp 29 (wv n<65536)<|zP 1 [{}] [.ae [34,29,24,14,8,7,6,0,1,2] [5]] []<|dp 34 (wv n<4294967296)<|zX (yH [(1,yV (ab (m<<<(5:UInt8)+27)))]) [yR (ab (m<<<(5:UInt8)+27))]<|aM<|ak (⟨(m<<<5+27,8),(by refine ⟨?_,?_⟩<;>omega),(zW [.ae [0,1,2,7,8] [5]])⟩)
 rintro ⟨f,s⟩ ⟨e,s1,s8⟩
 simp only at e s1 s8
 have Cx:=DR n s
 refine zP 1 [yH [(2,yV (AV.arr (ag [f]))),(3,yV (AV.ref 42))]] [.ae [0,1,2,7,8] [42]] [yR [ab f],yO (((ag o).length+1)*1≤140737488355328)]<|zS<|zP 1 [yH [(1,yV (ai ((↑s:Int)-1)))]] [.ae [9,0,1,2,7,8] [42]] [yN ((↑s:Int)-1)]<|zB 1 (zL (fun (q:Nat)=>(⟨[(1,ab m),(2,aw n),(7,ab f),(8,ai ↑s),(9,ai ((s:Int)-1-q)),(0,AV.ref 42)],[(42,⟨1,true,false,ag (o++f::oS n s q)⟩)]⟩:AS)) (fun q=>(q≤s)) (fun q=>(s-q)) (0) ?_ (eK [.ae [1,2,7,8,9,0] [42]] [9] [42] [yB (ai ((↑s:Int)-1)=ai ((↑s:Int)-1-(↑(0:Nat):Int))) (congrArg (fun n=>AV.val (.int .i64 n)) ah),yB (ag o++ag [f]=ag (o++f::oS n s 0)) (by rw [cZ];rfl)]) ?_)
 ·omega
 intro q hq
 have UO:=DR n s q
 have Wa:(ag (o++f::oS n s q)).length=o.length+(q+1):=by rw [aC,List.length_append,List.length_cons,UO]
 refine zS<|zP 1 [{}] [.ae [46,1,2,7,8,9,0] [42]] [] (zD 46 ((↑s:Int)-1-(↑q:Int)≥0) (fun h=>?_) (fun h=>?_))
 ·have w:IntKind.i64.wrap (8*((s:Int)-1-q))=((8*(s-1-q):Nat):Int):=by rw [IntKind.wrap_i64];omega
  refine a_<|zS<|zB 2<|zX (yH [(3,yV (ai (↑(8*(s-1-q)):Int))),(4,yV (aw (n>>>UInt64.ofNat (↑(8*(s-1-q)):Int).toNat))),(5,yV (ab ((n>>>UInt64.ofNat (↑(8*(s-1-q)):Int).toNat).toUInt8))),(6,yV (AV.arr (ag [(n>>>UInt64.ofNat (↑(8*(s-1-q)):Int).toNat).toUInt8]))),(7,yV (AV.arr (ag (o++f::oS n s q++ [(n>>>UInt64.ofNat (↑(8*(s-1-q)):Int).toNat).toUInt8]))))]) [yI (yc w),yI (fj n ((↑(8*(s-1-q)):Int)) ah ah),yO ((0:Int)≤(↑(8*(s-1-q)):Int)),yR (ab ((n>>>UInt64.ofNat (↑(8*(s-1-q)):Int).toNat).toUInt8)),yR [ab ((n>>>UInt64.ofNat (↑(8*(s-1-q)):Int).toNat).toUInt8)],yB (ag (o++f::oS n s q)++ag [(n>>>UInt64.ofNat (↑(8*(s-1-q)):Int).toNat).toUInt8]=ag (o++f::oS n s q++ [(n>>>UInt64.ofNat (↑(8*(s-1-q)):Int).toNat).toUInt8])) (cZ _ _),yO (((ag (o++f::oS n s q)).length+1)*1≤140737488355328)]<|aM<|ak<|zX (yH [(1,yV (ai ((↑s:Int)-1-(↑q:Int)-1)))]) [yN ((↑s:Int)-1-(↑q:Int)-1)] (aJ (q+1) ah ah (eK [.vo 56 42,.ae [1,2,7,8,9,0] [42]] [9] [42] [yB (ai ((↑s:Int)-1-(↑q:Int)-1)=ai ((↑s:Int)-1-(↑(q+1):Int))) (congrArg (fun n=>AV.val (.int .i64 n)) ah),yB (ag (o++f::oS n s q++ [(n>>>UInt64.ofNat (↑(8*(s-1-q)):Int).toNat).toUInt8])=ag (o++f::oS n s (q+1))) (congrArg ag (by rw [G0,Int.toNat_natCast];simp))]))
 ·have e2:q=s:=ah
  subst e2
  refine bf.oR (bS.add 5 1 bh)<|zE 1<|a7<|aO<|bn<|ak<|zq<|zR (zG [] [yB (ag (o++f::oS n q q)=ag (o++cG m n)) (by rw [e]),yB ([]=ag []) rfl])
def jm (x:fE):List UInt8:=if x.kind=3∨x.kind=4 then cG (u8 (x.kind-1)) (u64 x.cI.length)++x.cI else cG (u8 (x.kind-1)) x.num
theorem lZ (m:UInt8) (n:UInt64):(cG m n).length≤9:=by
 unfold cG
 split
 ·simp
 ·split
  ·simp [oS]
  ·split
   ·simp [oS]
   ·split<;>simp [oS]
theorem y0 (o:List UInt8) (x:fE) (hk:eM x.kind) (ho:o.length≤900000) (hd:x.cI.length≤10000):ga Tryz.prog 128 [.ref 5,.agg (aU x)] (Kp o) (.own 1 (ag (o++jm x))) (Kp []):=by
 have hz:(⟨x.cI.toArray⟩:ByteArray).size≤maxLen:=by
  show x.cI.toArray.size≤_
  unfold maxLen
  simp;omega
 rcases hk with h|h|h|h
 ·have e:jm x=cG (u8 (x.kind-1)) x.num:=if_neg ah
  refine m5 Tryz.func128 46<|zq<|zS<|zq<|zB 0<|zP 1 [{}] [.ae [7,6,4,3,0,1] [3,5]] []<|bj 7 (x.kind == (7:Int)) bE<|zq<|bj 16 (x.kind == (8:Int)) bE<|zS<|zP 1 [{}] [.ae [21,16,7,6,4,3,0,1] [3,5]] []<|bj 21 (x.kind == (3:Int)) bE<|zX {} []<|ak<|bj 21 (x.kind == (4:Int)) bE<|zK<|aM<|ak<|zP 1 [yH [(3,yV (ai (x.kind-1))),(4,yV (ab (u8 (x.kind-1)))),(7,{av:=some (AV.own 1 (ag (o++cG (u8 (x.kind-1)) x.num))),ln:=[(5,5)],ho:=[(5,Row.mk 1 true false (ag []))]})]] [.ae [4,21,16,7,6,3,1] [45,5,3]] [yN (x.kind-1),yI (iZ (x.kind-1)),yI (n_ o (u8 (x.kind-1)) x.num ah)]<|zR (zG [] [yB (ag (o++cG (u8 (x.kind-1)) x.num)=ag (o++jm x)) (by rw [e]),yR (ag [])])
 ·have e:jm x=cG (u8 (x.kind-1)) (u64 x.cI.length)++x.cI:=if_pos ah
  have hl:=lZ (u8 (x.kind-1)) (u64 x.cI.length)
  have hb:(ag (o++cG (u8 (x.kind-1)) (u64 x.cI.length))).length≤900009:=by rw [aC,List.length_append];omega
  have rj:(ag x.cI.toArray.toList).length≤10000:=by rw [aC];exact hd
  refine m5 Tryz.func128 46<|zq<|zS<|zq<|zB 0<|zP 1 [{}] [.ae [7,6,4,3,0,1] [3,5]] []<|bj 7 (x.kind == (7:Int)) bE<|zq<|bj 16 (x.kind == (8:Int)) bE<|zS<|bf.jW 1 [{}] [.ae [21,16,7,6,4,3,0,1] [3,5]] bh (s':=AS.mk [(21,ao (x.kind == (3:Int))),(16,ao (x.kind == (8:Int))),(7,ao (x.kind == (7:Int))),(6,ai x.kind),(4,AV.nil),(3,AV.addr 3 0),(0,AV.ref 5),(1,AV.agg (aU x))] [(3,Row.mk 1 false true (List.map (aD 3) (aU x))),(5,Row.mk 1 true false (ag o))]) (C:=[]) bh trivial<|du 21 (x.kind == (3:Int)) fb<|a_<|du 21 (x.kind == (3:Int)) fb<|zP 2 [yH [(3,yV (ai (x.kind-1))),(4,yV (ab (u8 (x.kind-1)))),(7,yV (ai (↑x.cI.length:Int))),(8,yV (aw (u64 (↑x.cI.length:Int)))),(9,{av:=some (AV.own 1 (ag (o++cG (u8 (x.kind-1)) (u64 (↑x.cI.length:Int))))),ln:=[(5,5)],ho:=[(5,Row.mk 1 true false (ag []))]})],yH [(3,{av:=some (AV.arr (ag (o++cG (u8 (x.kind-1)) (u64 (↑x.cI.length:Int))++x.cI.toArray.toList))),b:=false})]] [.ae [4,21,16,7,6,3,1] [37,5,3]] [yN (x.kind-1),yI (iZ (x.kind-1)),yR (ai (↑x.cI.length:Int)),yI (a6 ((↑x.cI.length:Int))),yI (n_ o (u8 (x.kind-1)) (u64 (↑x.cI.length:Int)) ah),yB (ag (o++cG (u8 (x.kind-1)) (u64 (↑x.cI.length:Int)))++ag x.cI.toArray.toList=ag (o++cG (u8 (x.kind-1)) (u64 (↑x.cI.length:Int))++x.cI.toArray.toList)) (cZ _ _),yB (cE (ag x.cI.toArray.toList)) (fO _),yO (((ag (o++cG (u8 (x.kind-1)) (u64 (↑x.cI.length:Int)))).length+(ag x.cI.toArray.toList).length)*1≤140737488355328)]<|zR<|aY<|aI (zG [] [yB (ag (o++cG (u8 (x.kind-1)) (u64 (↑x.cI.length:Int))++x.cI.toArray.toList)=ag (o++jm x)) (by rw [e];simp),yR (ag [])])
 ·have e:jm x=cG (u8 (x.kind-1)) (u64 x.cI.length)++x.cI:=if_pos ah
  have hl:=lZ (u8 (x.kind-1)) (u64 x.cI.length)
  have hb:(ag (o++cG (u8 (x.kind-1)) (u64 x.cI.length))).length≤900009:=by rw [aC,List.length_append];omega
  have rj:(ag x.cI.toArray.toList).length≤10000:=by rw [aC];exact hd
  refine m5 Tryz.func128 46<|zq<|zS<|zq<|zB 0<|zP 1 [{}] [.ae [7,6,4,3,0,1] [3,5]] []<|bj 7 (x.kind == (7:Int)) bE<|zq<|bj 16 (x.kind == (8:Int)) bE<|zS<|zP 1 [{}] [.ae [21,16,7,6,4,3,0,1] [3,5]] []<|bj 21 (x.kind == (3:Int)) bE<|zX {} []<|ak<|du 21 (x.kind == (4:Int)) fb<|zP 2 [yH [(3,yV (ai (x.kind-1))),(4,yV (ab (u8 (x.kind-1)))),(7,yV (ai (↑x.cI.length:Int))),(8,yV (aw (u64 (↑x.cI.length:Int)))),(9,{av:=some (AV.own 1 (ag (o++cG (u8 (x.kind-1)) (u64 (↑x.cI.length:Int))))),ln:=[(5,5)],ho:=[(5,Row.mk 1 true false (ag []))]})],yH [(3,{av:=some (AV.arr (ag (o++cG (u8 (x.kind-1)) (u64 (↑x.cI.length:Int))++x.cI.toArray.toList))),b:=false})]] [.ae [4,21,16,7,6,3,1] [37,5,3]] [yN (x.kind-1),yI (iZ (x.kind-1)),yR (ai (↑x.cI.length:Int)),yI (a6 ((↑x.cI.length:Int))),yI (n_ o (u8 (x.kind-1)) (u64 (↑x.cI.length:Int)) ah),yB (ag (o++cG (u8 (x.kind-1)) (u64 (↑x.cI.length:Int)))++ag x.cI.toArray.toList=ag (o++cG (u8 (x.kind-1)) (u64 (↑x.cI.length:Int))++x.cI.toArray.toList)) (cZ _ _),yB (cE (ag x.cI.toArray.toList)) (fO _),yO (((ag (o++cG (u8 (x.kind-1)) (u64 (↑x.cI.length:Int)))).length+(ag x.cI.toArray.toList).length)*1≤140737488355328)]<|zR<|aY<|aI (zG [] [yB (ag (o++cG (u8 (x.kind-1)) (u64 (↑x.cI.length:Int))++x.cI.toArray.toList)=ag (o++jm x)) (by rw [e];simp),yR (ag [])])
 ·have e:jm x=cG (u8 (x.kind-1)) x.num:=if_neg ah
  refine m5 Tryz.func128 46<|zq<|zS<|zq<|zB 0<|zP 1 [{}] [.ae [7,6,4,3,0,1] [3,5]] []<|bj 7 (x.kind == (7:Int)) bE<|bf.i9 1 [{}] bh (s':=AS.mk [(16,ao (x.kind == (8:Int))),(17,ao (x.kind == (8:Int))),(7,ao (x.kind == (7:Int))),(6,ai x.kind),(4,AV.nil),(3,AV.addr 3 0),(0,AV.ref 5),(1,AV.agg (aU x))] [(3,Row.mk 1 false true (List.map (aD 3) (aU x))),(5,Row.mk 1 true false (ag o))]) (C:=[]) bh trivial<|bj 16 (x.kind == (8:Int)) bE<|zS<|zP 1 [{}] [.ae [21,16,7,6,4,3,0,1] [3,5]] []<|bj 21 (x.kind == (3:Int)) bE<|zX {} []<|ak<|bj 21 (x.kind == (4:Int)) bE<|zK<|aM<|ak<|zP 1 [yH [(3,yV (ai (x.kind-1))),(4,yV (ab (u8 (x.kind-1)))),(7,{av:=some (AV.own 1 (ag (o++cG (u8 (x.kind-1)) x.num))),ln:=[(5,5)],ho:=[(5,Row.mk 1 true false (ag []))]})]] [.ae [4,21,16,7,6,3,1] [45,5,3]] [yN (x.kind-1),yI (iZ (x.kind-1)),yI (n_ o (u8 (x.kind-1)) x.num ah)]<|zR (zG [] [yB (ag (o++cG (u8 (x.kind-1)) x.num)=ag (o++jm x)) (by rw [e]),yR (ag [])])
def gR (l:List fE):List UInt8:=l.flatMap jm
def Gg (l:List fE):List UInt8:=if eP l=0 then gR l else []
theorem Bl (x:fE):(jm x).length≤9+x.cI.length:=by
 unfold jm
 split
 ·have:=lZ (u8 (x.kind-1)) (u64 x.cI.length)
  rw [List.length_append];omega
 ·have:=lZ (u8 (x.kind-1)) x.num
  omega
theorem ql:∀ {l:List fE} {n:Nat},(∀x∈l,x.cI.length≤10000)->l.length≤n->(gR l).length≤10009*n
 | [],n,_,_=>Nat.zero_le _
 | x::l,n,h,hn=>by
  have ih:=ql (l:=l) (n:=n-1) (fun y hy=>h y (by simp [hy])) (by simp at hn;omega)
  have h1:=Bl x
  have h2:=h x (by simp)
  simp only [List.length_cons] at hn
  show (jm x++gR l).length≤_
  rw [List.length_append];omega
theorem Dg (l:List fE) (hl:l.length≤50) (hk:∀x∈l,eM x.kind) (hd:∀x∈l,x.cI.length≤10000):bK Tryz.prog 77 [.sl 3 (af aU l)] (.bq [.own 1 (ag (Gg l)),ai (eP l)]):=by
 have s6:(af aU l).length=l.length*3:=aF (e:=3) (fun _=>rfl) ..
 have zf:∀x∈l,x.cI.length≤1000000:=fun x hx=>by have:=hd x hx;omega
 by_cases h:eP l=0
 case neg =>
  have e:Gg l= []:=if_neg h
  refine zO Tryz.func77 24<|zq<|zS<|zP 2 [yH [(1,yV (ai (eP l)))],yH [(1,yV (ao true))]] [.ae [11,4,3,2,0] []] [yI (iJ l ah hk zf),yB (ao (eP l != (0:Int))=ao true) (by simp [h])]<|zT 11<|zq<|dk (zV [yB (ag (Gg l)= []) (by rw [e];rfl),yR (Value.int .i64 (eP l))])
 have e:Gg l=gR l:=if_pos h
 refine zO Tryz.func77 24<|zq<|zS<|zP 2 [yH [(1,yV (ai (eP l)))],yH [(1,yV (ao false))]] [.ae [11,4,3,2,0] []] [yI (iJ l ah hk zf),yB (ao (eP l != (0:Int))=ao false) (by simp [h])]<|zF 11<|a_<|zq<|zS<|zQ 1 [yH [(1,{k:=l.length})]] [yI s6]<|zB 0 (zL (fun (i:Nat)=>(⟨[(14,ai (↑l.length:Int)),(13,AV.sl 3 (af aU l)),(11,ao false),(4,ai (eP l)),(3,ai 0),(2,AV.nil),(0,AV.sl 3 (af aU l)),(15,ai i),(5,AV.ref 21)],[(21,⟨1,true,false,ag (gR (l.take i))⟩)]⟩:AS)) (fun i=>(i≤l.length)) (fun i=>(l.length-i)) (0) ?_ (zW [.nil 5 21 1,.ae [14,13,11,4,3,2,0,15,5] [21]]) ?_)
 ·omega
 intro i hi
 have Nh:(gR (l.take i)).length≤10009*i:=ql (fun x hx=>hd x (List.mem_of_mem_take hx)) (by rw [List.length_take];omega)
 refine zq<|zS (zD 16 ((↑i:Int)<(↑l.length:Int)) (fun h2=>?_) (fun h2=>?_))
 ·have dz:i<l.length:=ah
  have hm:l.getD i default∈l:=by rw [List.getD_eq_getElem?_getD,List.getElem?_eq_getElem dz];exact List.getElem_mem dz
  have QQ:=hk _ hm
  have QV:=hd _ hm
  have es:gR (l.take i)++jm (l.getD i default)=gR (l.take (i+1)):=by
   rw [List.take_succ_eq_append_getElem dz]
   unfold gR
   rw [List.flatMap_append,List.getD_eq_getElem?_getD,List.getElem?_eq_getElem dz]
   simp
  refine a_<|zS<|zB 1<|zP 1 [yH [(0,{k:=i}),(1,yV (AV.agg (aU (l.getD i default))))]] [.ae [7,16,14,13,11,4,3,2,0,15,5] [7,21]] [yR (↑i:Int),yO (i*3<(af aU l).length),yu aU l i 0 3,yR 3,yL 3 3]<|zX (yH [(2,{av:=some (AV.own 1 (ag (gR (List.take i l)++jm (l.getD i default)))),ln:=[(21,5)],ho:=[(5,Row.mk 1 true false (ag []))]})]) [yI (y0 (gR (List.take i l)) (l.getD i default) QQ ah QV)]<|aM<|ak<|zX (yH [(0,yV (ai ((↑i:Int)+1)))]) [yN ((↑i:Int)+1)] (aJ (i+1) (by assumption) ah (eK [.ae [14,13,11,4,3,2,0,15,5] [21]] [] [21] [yB (ag (gR (List.take i l)++jm (l.getD i default))=ag (gR (List.take (i+1) l))) (congrArg ag es)]))
 ·have e2:i=l.length:=ah
  subst e2
  refine zE 0<|a7<|aO<|bn<|ak<|zq<|zR (zV [yB (ag (gR (List.take l.length l))=ag (Gg l)) (by rw [e,List.take_length]),yJ 0 (eP l) (by rw [h])])
def df (l:List fE):List AV:=[.sl 3 (af aU l)]
def aG (n:UInt64):fE:=⟨1,n,[]⟩
def cA (b:List UInt8):fE:=⟨4,0,b⟩
def dX (b:List UInt8):fE:=⟨3,0,b⟩
def bD (n:UInt64):fE:=⟨5,n,[]⟩
theorem gW (n:UInt64):bK Tryz.prog 75 [aw n] (.own 3 (af aU [aG n])):=by
 refine zO Tryz.func75 6<|zP 2 [{},{}] [.ae [2,0] [5]] []<|zR (bV)
theorem tE (b:List UInt8):bK Tryz.prog 122 [db b] (.own 3 (af aU [cA b])):=by
 refine zO Tryz.func122 6<|zP 2 [{},{}] [.ae [2,0] [5]] []<|zR (bV)
theorem Bt (b:List UInt8) (hb:b.length≤1000000):bK Tryz.prog 123 [.sl 1 (ag b)] (.own 3 (af aU [dX b])):=by
 refine zO Tryz.func123 7<|zP 2 [{},yH [(1,yV (db b))]] [.ae [2,0] [6]] [yR (ag b)]<|zR (bV)
theorem En {l:List (List fE)} {i:Nat} (h:i<l.length):(af df l)[i]?=some (.sl 3 (af aU (l.getD i default))):=by
 have:=om (f:=df) (e:=1) (l:=l) (k:=i) (j:=0) (fun _=>rfl) h (c:=.sl 3 (af aU (l.getD i default))) rfl
 simpa using this
structure JN (vs:List (List fE)):Prop where
 len:vs.length≤20
 each:∀v∈vs,v.length≤20
 kind:∀v∈vs,∀x∈v,eM x.kind
 cI:∀v∈vs,∀x∈v,x.cI.length≤10000
def oB (vs:List (List fE)) (i:Nat):Int:=eP (vs.getD i default)
theorem CN (vs:List (List fE)) (hv:JN vs):bK Tryz.prog 125 [.sl 1 (af df vs)] (ai (ff (oB vs) vs.length)):=by
 have TY:=hv.len
 have s6:(af df vs).length=vs.length:=by rw [aF (e:=1) (fun _=>rfl)];omega
 refine zO Tryz.func125 18<|zq<|zS<|zQ 1 [yH [(1,{k:=(af df vs).length})]] [yR ((af df vs).length)]<|zB 0 (zL (fun (i:Nat)=>(⟨[(7,ai (↑(af df vs).length:Int)),(6,AV.sl 1 (af df vs)),(0,AV.sl 1 (af df vs)),(8,ai i)],[]⟩:AS)) (fun i=>(i≤vs.length∧ff (oB vs) i=0)) (fun i=>(vs.length-i)) (0) ?_ (zW [.ae [7,6,0,8] []]) ?_)
 ·exact ⟨ah,rfl⟩
 rintro i ⟨hi,h0⟩
 refine zq<|zS (zD 9 ((↑i:Int)<(↑(af df vs).length:Int)) (fun h=>?_) (fun h=>?_))
 ·have dz:i<vs.length:=ah
  have gh:=En dz
  have hm:vs.getD i default∈vs:=by rw [List.getD_eq_getElem?_getD,List.getElem?_eq_getElem dz];exact List.getElem_mem dz
  have he:=hv.each _ hm
  have hk:=hv.kind _ hm
  have zf:∀x∈vs.getD i default,x.cI.length≤1000000:=fun x hx=>by have:=hv.cI _ hm x hx;omega
  by_cases e:eP (vs.getD i default)=0
  ·have k2:ff (oB vs) (i+1)=0:=by show (if _ then _ else _)=_;rw [if_neg ah];exact e
   refine a_<|zS<|zB 1<|zP 3 [yH [(0,{k:=i}),(1,yV (AV.sl 3 (af aU (vs.getD i default))))],yH [(1,yV (ai (eP (vs.getD i default))))],{}] [.ae [15,5,4,9,7,6,0,8] []] [yR (↑i:Int),yO (i<(af df vs).length),yI gh,yI (iJ (vs.getD i default) ah hk zf)]<|bj 15 (eP (vs.getD i default) != (0:Int)) (by simp_all)<|zK<|aM<|ak<|zX (yH [(0,yV (ai ((↑i:Int)+1)))]) [yN ((↑i:Int)+1)] (aJ (i+1) ⟨ah,k2⟩ ah (zW [.ae [7,6,0,8] []]))
  ·have k2:ff (oB vs) (i+1)=oB vs i:=by show (if _ then _ else _)=_;rw [if_neg ah]
   have k3:=ld (E:=oB vs) e k2 vs.length ah
   refine a_<|zS<|zB 1<|zP 3 [yH [(0,{k:=i}),(1,yV (AV.sl 3 (af aU (vs.getD i default))))],yH [(1,yV (ai (eP (vs.getD i default))))],{}] [.ae [15,5,4,9,7,6,0,8] []] [yR (↑i:Int),yO (i<(af df vs).length),yI gh,yI (iJ (vs.getD i default) ah hk zf)]<|du 15 (eP (vs.getD i default) != (0:Int)) (by simp_all)<|zq<|zR<|aY<|aI<|c_<|aY<|aI (zV [yJ (eP (vs.getD i default)) (ff (oB vs) vs.length) (by rw [k3])])
 ·have e:i=vs.length:=ah
  subst e
  refine zE 0<|a7<|aO<|bn<|ak<|zq<|zR (zV [yJ 0 (ff (oB vs) vs.length) (by rw [h0])])
theorem Bs (l:List fE) (e:eP l=0) (hl:l.length≤500) (hk:∀x∈l,eM x.kind) (zf:∀x∈l,x.cI.length≤1000000):bK Tryz.prog 126 [.sl 3 (af aU l)] (.bq [.sl 3 (af aU l),ai 0]):=by
 refine zO Tryz.func126 11<|zq<|zS<|zP 2 [yH [(1,yV (ai (eP l)))],yH [(1,yV (ao false))]] [.ae [8,4,3,2,0] []] [yI (iJ l hl hk zf),yB (ao (eP l != (0:Int))=ao false) (by simp [e])]<|zF 8<|a_<|zq<|zR (bV)
def pz (vs:List (List fE)):List fE:=bD (u64 vs.length)::vs.flatten
theorem Eo {vs:List (List fE)} (hv:JN vs):∀x∈pz vs,eM x.kind∧x.cI.length≤10000:=by
 intro x hx
 rcases List.mem_cons.1 hx with rfl|hx
 ·exact ⟨.inr (.inr (.inr rfl)),Nat.zero_le _⟩
 ·obtain ⟨v,hm,Ok⟩:=List.mem_flatten.1 hx
  exact ⟨hv.kind v hm x Ok,hv.cI v hm x Ok⟩
theorem xO:∀ {vs:List (List fE)} {n:Nat},(∀v∈vs,v.length≤20)->vs.length≤n->vs.flatten.length≤20*n
 | [],n,_,_=>Nat.zero_le _
 | v::vs,n,h,hn=>by
  simp only [List.length_cons] at hn
  have ih:=xO (vs:=vs) (n:=n-1) (fun y hy=>h y (by simp [hy])) ah
  have h1:=h v (by simp)
  rw [List.flatten_cons,List.length_append];omega
theorem wz (x:fE):cE (aU x):=dJ rfl
theorem rH (vs:List (List fE)) (hv:JN vs) (hf:ff (oB vs) vs.length=0) (e:eP (pz vs)=0):bK Tryz.prog 76 [.sl 1 (af df vs)] (.bq [.sl 3 (af aU (pz vs)),ai 0]):=by
 have TY:=hv.len
 have s6:(af df vs).length=vs.length:=by rw [aF (e:=1) (fun _=>rfl)];omega
 have sH:=xO (vs:=vs) (n:=20) hv.each TY
 have Sl:(pz vs).length≤500:=by show vs.flatten.length+1≤_;omega
 have Wi:∀x∈pz vs,eM x.kind:=fun x hx=>(Eo hv x hx).1
 have Wj:∀x∈pz vs,x.cI.length≤1000000:=fun x hx=>by have:=(Eo hv x hx).2;omega
 refine zO Tryz.func76 35<|zq<|zS<|zP 2 [yH [(1,yV (ai (ff (oB vs) vs.length)))],yH [(1,yV (ao false))]] [.ae [11,4,3,2,0] []] [yI (CN vs hv),yB (ao (ff (oB vs) vs.length != (0:Int))=ao false) (by simp [hf])]<|zF 11<|a_<|zP 1 [yH [(1,{k:=(af df vs).length}),(2,yV (aw (u64 (↑(af df vs).length:Int))))]] [.ae [5,11,4,3,2,0] [17]] [yR ((af df vs).length),yI (a6 (↑(af df vs).length:Int))]<|zS<|zQ 1 [yH [(1,{k:=(af df vs).length})]] [yR ((af df vs).length)]<|zB 0 (zL (fun (i:Nat)=>(⟨[(19,ai (↑(af df vs).length:Int)),(18,AV.sl 1 (af df vs)),(11,ao false),(4,ai (ff (oB vs) vs.length)),(3,ai 0),(2,AV.nil),(0,AV.sl 1 (af df vs)),(20,ai i),(5,AV.ref 29)],[(29,⟨3,true,false,af aU (bD (u64 vs.length)::(vs.take i).flatten)⟩)]⟩:AS)) (fun i=>(i≤vs.length)) (fun i=>(vs.length-i)) (0) ?_ (eK [.vo 17 29,.loose 29,.ae [19,18,11,4,3,2,0,20,5] [29]] [] [29] [yB ([ai 5,aw (u64 (↑(af df vs).length:Int)),AV.val (Value.string (ByteArray.mk #[]))]=af aU (bD (u64 (↑vs.length:Int))::(List.take 0 vs).flatten)) (by rw [s6];rfl)]) ?_)
 ·omega
 intro i hi
 have Wg:=xO (vs:=vs.take i) (n:=20) (fun v hm=>hv.each v (List.mem_of_mem_take hm)) (by rw [List.length_take];omega)
 have QP:(af aU (bD (u64 vs.length)::(vs.take i).flatten)).length≤1203:=by rw [aF (e:=3) (fun _=>rfl),List.length_cons];omega
 have L7:(bD (u64 vs.length)::(vs.take i).flatten).length≤401:=by rw [List.length_cons];omega
 refine zq<|zS (zD 21 ((↑i:Int)<(↑(af df vs).length:Int)) (fun h=>?_) (fun h=>?_))
 ·have dz:i<vs.length:=ah
  have gh:=En dz
  have hm:vs.getD i default∈vs:=by rw [List.getD_eq_getElem?_getD,List.getElem?_eq_getElem dz];exact List.getElem_mem dz
  have he:=hv.each _ hm
  have Nh:(af aU (vs.getD i default)).length≤60:=by rw [aF (e:=3) (fun _=>rfl)];omega
  have es:af aU (bD (u64 vs.length)::(vs.take i).flatten)++af aU (vs.getD i default)=af aU (bD (u64 vs.length)::(vs.take (i+1)).flatten):=by
   have ef:(vs.take (i+1)).flatten=(vs.take i).flatten++vs.getD i default:=by
    rw [List.take_succ_eq_append_getElem dz,List.flatten_append,List.getD_eq_getElem?_getD,List.getElem?_eq_getElem dz]
    simp
   rw [fB,ef];rfl
  refine a_<|zS<|zB 1<|zP 1 [yH [(0,{k:=i}),(1,yV (AV.sl 3 (af aU (vs.getD i default))))]] [.ae [7,21,19,18,11,4,3,2,0,20,5] [29]] [yR (↑i:Int),yO (i<(af df vs).length),yI gh]<|zS<|zP 1 [yH [(1,{k:=(bD (u64 (↑vs.length:Int))::(List.take i vs).flatten).length})]] [.ae [26,7,21,19,18,11,4,3,2,0,20,5] [29]] [yB ((af aU (bD (u64 (↑vs.length:Int))::(List.take i vs).flatten)).length=(bD (u64 (↑vs.length:Int))::(List.take i vs).flatten).length*3) (by simp only [aF (f:=aU) (e:=3) (fun _=>rfl)])]<|dp 26 ((↑(bD (u64 (↑vs.length:Int))::(List.take i vs).flatten).length:Int)>512)<|a_<|zX (yH [(2,{b:=false})]) [yB (cE (af aU (vs.getD i default))) (dD (fun x=>wz x) _),yO (((af aU (bD (u64 (↑vs.length:Int))::(List.take i vs).flatten)).length+(af aU (vs.getD i default)).length)*32≤422212465065984)]<|aM<|ak<|zX (yH [(0,yV (ai ((↑i:Int)+1)))]) [yN ((↑i:Int)+1)] (aJ (i+1) (by assumption) ah (eK [.ae [19,18,11,4,3,2,0,20,5] [29]] [] [29] [yI es]))
 ·have e2:i=vs.length:=ah
  subst e2
  rw [List.take_length]
  refine zE 0<|a7<|aO<|bn<|ak<|zP 1 [yH [(1,{av:=some (AV.bq [AV.sl 3 (af aU (bD (u64 (↑vs.length:Int))::vs.flatten)),ai 0]),b:=false})]] [.ae [3,2,21,19,18,11,4,0,20,5] []] [yI (Bs (bD (u64 (↑vs.length:Int))::vs.flatten) (by assumption) (by assumption) (by assumption) (by assumption))]<|zR (bV)
structure eO (x:fE):Prop where
 kind:x.kind=1∨x.kind=3∨x.kind=4
 Uc:gO x=true
 cI:x.cI.length≤1024
 acc:qB x=0
theorem eO.uint (n:UInt64):eO (aG n):=⟨.inl rfl,rfl,Nat.zero_le _,rfl⟩
theorem eO.byte {b:List UInt8} (h:b.length≤1024):eO (dX b):=⟨.inr (.inl rfl),rfl,h,rfl⟩
theorem eO.text {b:List UInt8} (h:b.length≤1024) (hv:Lib.validD b=true):eO (cA b):=⟨.inr (.inr rfl),rfl,h,by
 unfold qB
 rw [if_neg]
 rintro ⟨-,q⟩
 have q:Lib.validD b=false:=q
 rw [hv] at q;cases q⟩
theorem sZ {fr:List Int} {c:Nat} {x:fE} (h:eO x) (h1:c=0∨fr.length≠0) (h2:c<512) (h3:fr.length≤8):mW fr c x=0:=by
 have hk:=h.kind
 have ha:eZ c fr.length x.kind=0:=by unfold eZ;rw [if_neg ah,if_neg ah,if_neg ah]
 have hd:=h.cI
 unfold mW
 rw [if_neg ah,if_neg ah,if_neg (by rw [h.Uc];decide),if_neg ah,if_neg ah]
 exact h.acc
theorem G5 {x:fE} (h:eO x) (k:Int):lQ [k] x=if k=1 then [] else [k-1]:=by
 have hk:=h.kind
 have hp:lz x (mI [k])= [k-1]:=by
  unfold lz
  rw [if_neg ah]
  rfl
 unfold lQ
 rw [hp]
 unfold o_
 by_cases e:k=1
 ·subst e;rfl
 ·rw [if_neg e]
  have:lA [k-1] 1=1:=by
   show (if ([k-1]:List Int).getD 0 0=0 then _ else _)=_
   rw [if_neg]
   show ¬(k-1=0)
   omega
  show List.take (lA [k-1] 1) [k-1]=_
  rw [this];rfl
theorem Kf {x:fE} (h:eO x):lQ [] x= []:=by
 have hk:=h.kind
 unfold lQ lz
 rw [if_neg ah]
 rfl
theorem DX {n:UInt64} (h:0<wv n):lQ [] (bD n)= [wv n]:=by
 have hp:lz (bD n) (mI [])= [wv n]:=if_pos ⟨rfl,h⟩
 unfold lQ
 rw [hp]
 have:lA [wv n] 1=1:=by
  show (if ([wv n]:List Int).getD 0 0=0 then _ else _)=_
  rw [if_neg]
  show ¬(wv n=0)
  omega
 unfold o_
 show List.take (lA [wv n] 1) [wv n]=_
 rw [this];rfl
theorem zn {x:fE} (h:eO x):eP [x]=0:=by
 have h0:vE [x] 0=0:=sZ h (.inl rfl) (by decide) (Nat.zero_le _)
 have hf:ff (vE [x]) 1=0:=by show (if _ then _ else _)=_;rw [if_neg (by show ¬(0:Int)≠0;decide)];exact h0
 have hv:vF [x] 1= []:=Kf h
 unfold eP
 show (if ff (vE [x]) 1≠0 then ff (vE [x]) 1 else if 0<1∧(vF [x] 1).length=0 then 0 else 1)=(0:Int)
 rw [if_neg ah,if_pos ⟨by decide,by rw [hv];rfl⟩]
section
variable {n:UInt64} {xs:List fE} (hx:∀x∈xs,eO x) (hn:wv n=xs.length) (h1:1≤xs.length) (h2:xs.length≤100)
include hx hn h1 h2
theorem BL:∀j,j≤xs.length->vF (bD n::xs) (j+1)=if j=xs.length then [] else [(xs.length:Int)-j]
 | 0,_=>by
  rw [if_neg ah]
  show lQ [] (bD n)=_
  rw [DX ah,hn];simp
 | j+1,hj=>by
  have ih:=BL j ah
  rw [if_neg ah] at ih
  have hm:(bD n::xs).getD (j+1) default∈xs:=by
   show xs.getD j default∈xs
   rw [List.getD_eq_getElem?_getD,List.getElem?_eq_getElem ah];exact List.getElem_mem ah
  show lQ (vF (bD n::xs) (j+1)) ((bD n::xs).getD (j+1) default)=_
  rw [ih,G5 (hx _ hm)]
  by_cases e:j+1=xs.length
  ·rw [if_pos ah,if_pos e]
  ·rw [if_neg ah,if_neg e]
   congr 1
   omega
theorem My (j:Nat) (hj:j≤xs.length):vE (bD n::xs) j=0:=by
 cases j with
 | zero =>
  show mW [] 0 (bD n)=0
  unfold mW
  rw [if_neg ah,if_neg (by show ¬eZ 0 0 5≠0;decide),if_neg (by show ¬gO (bD n)=false;have:gO (bD n)=true:=rfl;rw [this];decide),if_neg (by show ¬1024<0;decide),if_neg (by rintro ⟨-,q⟩;have q:512<wv n:=q;omega)]
  rfl
 | succ j =>
  have hm:(bD n::xs).getD (j+1) default∈xs:=by
   show xs.getD j default∈xs
   rw [List.getD_eq_getElem?_getD,List.getElem?_eq_getElem ah];exact List.getElem_mem ah
  have e:=BL hx hn h1 h2 j ah
  rw [if_neg ah] at e
  show mW (vF (bD n::xs) (j+1)) (j+1) ((bD n::xs).getD (j+1) default)=0
  rw [e]
  exact sZ (hx _ hm) (.inr (by simp)) ah (by simp)
theorem IY:∀j,j≤xs.length+1->ff (vE (bD n::xs)) j=0
 | 0,_=>rfl
 | j+1,hj=>by
  show (if _ then _ else _)=_
  rw [if_neg (by rw [IY j ah];decide)]
  exact My hx hn h1 h2 j ah
theorem DO:eP (bD n::xs)=0:=by
 have hf:=IY hx hn h1 h2 (xs.length+1) (Nat.le_refl _)
 have hv:=BL hx hn h1 h2 xs.length (Nat.le_refl _)
 rw [if_pos rfl] at hv
 unfold eP
 show (if ff (vE (bD n::xs)) (xs.length+1)≠0 then _ else if 0<xs.length+1∧(vF (bD n::xs) (xs.length+1)).length=0 then 0 else 1)=(0:Int)
 rw [if_neg ah,if_pos ⟨ah,by rw [hv];rfl⟩]
end
theorem pa {xs:List fE} (hx:∀x∈xs,eO x) (h1:1≤xs.length) (h2:xs.length≤20):JN (xs.map fun x=>[x])∧ff (oB (xs.map fun x=>[x])) (xs.map fun x=>[x]).length=0∧eP (pz (xs.map fun x=>[x]))=0∧pz (xs.map fun x=>[x])=bD (u64 xs.length)::xs:=by
 have sH:(xs.map fun x=>[x]).flatten=xs:=by
  clear hx h1 h2
  induction xs with
  | nil=>rfl
  | cons x l ih=>rw [List.map_cons,List.flatten_cons,ih];rfl
 have ha:pz (xs.map fun x=>[x])=bD (u64 xs.length)::xs:=by unfold pz;rw [sH,List.length_map]
 have rb:∀v∈xs.map fun x=>[x],∃x∈xs,v= [x]:=fun v hv=>by
  obtain ⟨x,hm,e⟩:=List.mem_map.1 hv
  exact ⟨x,hm,e.symm⟩
 refine ⟨⟨by rw [List.length_map];exact h2,fun v hv=>?_,fun v hv x Ok=>?_,fun v hv x Ok=>?_⟩,?_,?_,ha⟩
 ·obtain ⟨x,-,rfl⟩:=rb v hv;simp
 ·obtain ⟨y,hy,rfl⟩:=rb v hv
  have:=List.mem_singleton.1 Ok
  subst this
  rcases (hx _ hy).kind with q|q|q
  ·exact .inl q
  ·exact .inr (.inl q)
  ·exact .inr (.inr (.inl q))
 ·obtain ⟨y,hy,rfl⟩:=rb v hv
  have:=List.mem_singleton.1 Ok
  subst this
  have:=(hx _ hy).cI
  omega
 ·have:∀j,j≤(xs.map fun x=>[x]).length->ff (oB (xs.map fun x=>[x])) j=0:=by
   intro j
   induction j with
   | zero=>intro _;rfl
   | succ j ih =>
    intro hj
    show (if _ then _ else _)=_
    rw [if_neg (by rw [ih ah];decide)]
    have xV:j<xs.length:=by rw [List.length_map] at hj;omega
    show eP ((xs.map fun x=>[x]).getD j default)=0
    rw [List.getD_eq_getElem?_getD,List.getElem?_map,List.getElem?_eq_getElem xV]
    exact zn (hx _ (List.getElem_mem xV))
  exact this _ (Nat.le_refl _)
 ·rw [ha]
  refine DO hx ?_ h1 ah
  rw [qG];omega
def lq:List Int->Nat->List fE->Option (List Int)
 | fr,_,[]=>some fr
 | fr,c,x::l=>if mW fr c x=0 then lq (lQ fr x) (c+1) l else none
theorem nj:∀(l m:List fE) (fr:List Int) (c:Nat),lq fr c (l++m)=(lq fr c l).bind fun f=>lq f (c+l.length) m
 | [],m,fr,c=>rfl
 | x::l,m,fr,c=>by
  show (if mW fr c x=0 then lq (lQ fr x) (c+1) (l++m) else none)=(if mW fr c x=0 then lq (lQ fr x) (c+1) l else none).bind _
  split
  ·rw [nj l m,show c+1+l.length=c+(x::l).length by rw [List.length_cons];omega]
  ·rfl
theorem D5 (l:List fE):∀n,n≤l.length-> ∀fr,lq [] 0 (l.take n)=some fr->vF l n=fr∧ff (vE l) n=0
 | 0,_,fr,h=>⟨by injection h,rfl⟩
 | n+1,hn,fr,h=>by
  have e:l.take (n+1)=l.take n++ [l.getD n default]:=by
   rw [List.take_add_one,List.getD_eq_getElem?_getD,List.getElem?_eq_getElem ah];rfl
  rw [e,nj] at h
  cases h1:lq [] 0 (l.take n) with
  | none=>rw [h1] at h;cases h
  | some g =>
   obtain ⟨i1,i2⟩:=D5 l n ah g h1
   rw [h1] at h
   have h:(if mW g (0+(l.take n).length) (l.getD n default)=0 then some (lQ g (l.getD n default)) else none)=some fr:=h
   rw [List.length_take,Nat.min_eq_left ah,Nat.zero_add] at h
   split at h
   ·rename_i q
    injection h with h
    exact ⟨by show lQ (vF l n) _=_;rw [i1,h],by show (if _ then _ else _)=_;rw [if_neg ah];show mW (vF l n) n _=0;rw [i1];exact q⟩
   ·cases h
theorem Kc {l:List fE} (h0:0<l.length) (h:lq [] 0 l=some []):eP l=0:=by
 obtain ⟨h1,h2⟩:=D5 l l.length (Nat.le_refl _) [] (by rw [List.take_length];exact h)
 unfold eP
 rw [if_neg ah,if_pos ⟨h0,by rw [h1];rfl⟩]
theorem rm (f:List Int) (k:Int):(f++ [k]).getD ((f++ [k]).length-1) 0=k:=by
 rw [List.length_append,show f.length+ [k].length-1=f.length from Nat.add_sub_cancel ..]
 simp [List.getD_eq_getElem?_getD]
theorem wV (f:List Int) (k:Int):mI (f++ [k])=f++ [k-1]:=by
 unfold mI
 rw [if_neg (by simp),rm,List.length_append,show f.length+ [k].length-1=f.length from Nat.add_sub_cancel ..]
 simp
theorem qU (f:List Int) {k:Int} (h:k≠0):o_ (f++ [k])=f++ [k]:=by
 unfold o_
 have:lA (f++ [k]) (f++ [k]).length=(f++ [k]).length:=by
  rw [show (f++ [k]).length=f.length+1 by simp]
  show (if (f++ [k]).getD f.length 0=0 then _ else _)=_
  have:=rm f k
  rw [show (f++ [k]).length-1=f.length by simp] at this
  rw [this,if_neg h]
 rw [this,List.take_length]
theorem At (f g:List Int):∀n,n≤f.length->lA (f++g) n=lA f n
 | 0,_=>rfl
 | n+1,h=>by
  show (if (f++g).getD n 0=0 then lA (f++g) n else n+1)=(if f.getD n 0=0 then lA f n else n+1)
  rw [At f g n ah,List.getD_eq_getElem?_getD,List.getD_eq_getElem?_getD,List.getElem?_append_left ah]
theorem Ec (f:List Int):∀n,lA f n≤n
 | 0=>Nat.le_refl _
 | n+1=>by
  show (if f.getD n 0=0 then lA f n else n+1)≤_
  split
  ·have:=Ec f n;omega
  ·exact Nat.le_refl _
theorem Fu (f:List Int):o_ (f++ [0])=o_ f:=by
 unfold o_
 have:lA (f++ [0]) (f++ [0]).length=lA f f.length:=by
  rw [show (f++ [(0:Int)]).length=f.length+1 by simp]
  show (if (f++ [(0:Int)]).getD f.length 0=0 then lA (f++ [0]) f.length else _)=_
  have:=rm f 0
  rw [show (f++ [(0:Int)]).length-1=f.length by simp] at this
  rw [if_pos this,At f [0] _ (Nat.le_refl _)]
 rw [this,List.take_append_of_le_length (Ec f _)]
theorem DW {x:fE} (h:eO x) (f:List Int) (k:Int):lQ (f++ [k]) x=if k=1 then o_ f else f++ [k-1]:=by
 have hk:=h.kind
 unfold lQ lz
 rw [if_neg ah,wV]
 by_cases e:k=1
 ·rw [if_pos e,e];exact Fu f
 ·rw [if_neg e];exact qU f ah
theorem MC (f:List Int) (k:Int) {n:UInt64} (h:0<wv n):lQ (f++ [k]) (bD n)=f++ [k-1]++ [wv n]:=by
 unfold lQ lz
 rw [if_pos ⟨rfl,h⟩,wV]
 have h':wv n≠0:=ah
 exact qU _ h'
theorem H2 {fr:List Int} {c:Nat} {n:UInt64} (h1:c=0∨fr.length≠0) (h2:c<512) (h3:fr.length≤8) (hn:wv n≤512):mW fr c (bD n)=0:=by
 have ha:eZ c fr.length 5=0:=by unfold eZ;rw [if_neg ah,if_neg ah,if_neg ah]
 unfold mW
 rw [if_neg ah,if_neg (by show ¬eZ c fr.length 5≠0;omega),if_neg (by show ¬gO (bD n)=false;have:gO (bD n)=true:=rfl;rw [this];decide),if_neg (by show ¬1024<0;decide),if_neg (by rintro ⟨-,q⟩;have q:512<wv n:=q;omega)]
 rfl
theorem tM {f:List Int} (hf:f.length≤6):∀ {xs:List fE} {k:Int} {c:Nat},(∀x∈xs,eO x)->(xs.length:Int)<k->c+xs.length≤500->lq (f++ [k]) c xs=some (f++ [k-xs.length])
 | [],k,c,_,_,_=>by show some (f++ [k])=some (f++ [k-((0:Nat):Int)]);simp
 | x::xs,k,c,hx,hk,hc=>by
  have Oz:c+(xs.length+1)≤500:=hc
  have r9:((xs.length+1:Nat):Int)<k:=hk
  have hl:=hx x (List.mem_cons_self ..)
  show (if mW (f++ [k]) c x=0 then lq (lQ (f++ [k]) x) (c+1) xs else none)=_
  rw [if_pos (sZ hl (.inr (by simp)) ah (by simp;omega)),DW hl,if_neg ah,tM hf (fun y hy=>hx y (List.mem_cons_of_mem _ hy)) ah ah]
  show some (f++ [k-1-(xs.length:Int)])=some (f++ [k-((xs.length+1:Nat):Int)])
  rw [show k-((xs.length+1:Nat):Int)=k-1-xs.length by omega]
theorem tN {f:List Int} (hf:f.length≤6):∀ {xs:List fE} {c:Nat},(∀x∈xs,eO x)->0<xs.length->c+xs.length≤500->lq (f++ [(xs.length:Int)]) c xs=some (o_ f)
 | [],_,_,h,_=>by cases h
 | x::xs,c,hx,_,hc=>by
  have Oz:c+(xs.length+1)≤500:=hc
  have hl:=hx x (List.mem_cons_self ..)
  show (if mW (f++ [((xs.length+1:Nat):Int)]) c x=0 then lq (lQ (f++ [((xs.length+1:Nat):Int)]) x) (c+1) xs else none)=_
  rw [if_pos (sZ hl (.inr (by simp)) ah (by simp;omega)),DW hl]
  by_cases e:xs.length=0
  ·rw [if_pos ah,List.eq_nil_of_length_eq_zero e];rfl
  ·rw [if_neg ah,show ((xs.length+1:Nat):Int)-1=xs.length by omega]
   exact tN hf (fun y hy=>hx y (List.mem_cons_of_mem _ hy)) ah ah
theorem wm {f:List Int} (hf:f.length≤4) {xs:List fE} {k:Int} {c:Nat} {n:UInt64} (hx:∀x∈xs,eO x) (hn:wv n=xs.length) (h1:0<xs.length) (hk:1<k) (hc:c+xs.length≤400):lq (f++ [k]) c (bD n::xs)=some (f++ [k-1]):=by
 show (if mW (f++ [k]) c (bD n)=0 then lq (lQ (f++ [k]) (bD n)) (c+1) xs else none)=_
 rw [if_pos (H2 (.inr (by simp)) ah (by simp;omega) ah),MC _ _ ah,hn,tN (by simp;omega) hx h1 ah,qU _ ah]
theorem Hf {n:UInt64} (l:List fE) (h:0<wv n) (h2:wv n≤512):lq [] 0 (bD n::l)=lq ([]++ [wv n]) 1 l:=by
 show (if mW [] 0 (bD n)=0 then lq (lQ [] (bD n)) 1 l else none)=_
 rw [if_pos (H2 (.inl rfl) ah (by simp) h2),DX h];rfl
def bA (h:Int):Prop:=h<0∨4<h
instance (h:Int):Decidable (bA h):=inferInstanceAs (Decidable (_∨_))
theorem hU (h:Int):bK Tryz.prog 87 [ai h] (ao (decide (bA h))):=by
 by_cases h1:h<0
 ·have e:decide (bA h)=true:=decide_eq_true (.inl h1)
  refine zO Tryz.func87 9<|zP 2 [{},{}] [.ae [2,0] []] (yM 3 (yT (h<0)))<|zR (zV [yB (Value.bool true=Value.bool (decide (bA h))) (by rw [e])])
 ·by_cases h2:h>4
  ·have e:decide (bA h)=true:=decide_eq_true (.inr h2)
   refine zO Tryz.func87 9<|zP 2 [{},yH ([(5,{b:=false})]++yg [3,4])] [.ae [2,0] []] (yM 3 (yF (h<0)))<|zR (zV [yB (Value.bool (decide (h>4))=Value.bool (decide (bA h))) (by rw [e,decide_eq_true h2])])
  ·have e:decide (bA h)=false:=decide_eq_false (by rintro (h|h)<;>omega)
   refine zO Tryz.func87 9<|zP 2 [{},yH ([(5,{b:=false})]++yg [3,4])] [.ae [2,0] []] (yM 3 (yF (h<0)))<|zR (zV [yB (Value.bool (decide (h>4))=Value.bool (decide (bA h))) (by rw [e,decide_eq_false h2])])
theorem b_ (h:Int):bK Tryz.prog 91 [ai h] (ao (!decide (bA h))):=by
 by_cases h1:h<0
 ·have e:decide (bA h)=true:=decide_eq_true (.inl h1)
  refine zO Tryz.func91 9<|zP 2 [{},yH ([(5,{b:=false})]++yg [3,4])] [.ae [2,0] []] (yM 3 (yF (h≥0)))<|zR (zV [yB (Value.bool false=Value.bool !decide (bA h)) (by rw [e];rfl)])
 ·by_cases h2:h>4
  ·have e:decide (bA h)=true:=decide_eq_true (.inr h2)
   refine zO Tryz.func91 9<|zP 2 [{},{}] [.ae [2,0] []] (yM 3 (yT (h≥0)))<|zR (zV [yB (Value.bool (decide (h≤4))=Value.bool !decide (bA h)) (by rw [e,decide_eq_false ah];rfl)])
  ·have e:decide (bA h)=false:=decide_eq_false (by rintro (h|h)<;>omega)
   refine zO Tryz.func91 9<|zP 2 [{},{}] [.ae [2,0] []] (yM 3 (yT (h≥0)))<|zR (zV [yB (Value.bool (decide (h≤4))=Value.bool !decide (bA h)) (by rw [e,decide_eq_true ah];rfl)])
def eU (h:Int):Int:=if bA h then 9 else 0
def di (h:Int) (r:UInt64):List UInt8:=if bA h then [] else u8 h::words [r]
def gP (lv:Int) (a b:UInt64):UInt64:=hash 3 (words [u64 lv,a,b])
theorem pb (lv:Int) (a b:UInt64):bK Tryz.prog 144 [ai lv,aw a,aw b] (aw (gP lv a b)):=by
 refine zO Tryz.func144 14<|zP 2 [{},yH [(1,yV (aw (u64 lv))),(4,yV (AV.arr (aj [u64 lv,a,b]))),(5,yV (AV.own 1 (ag (words [u64 lv,a,b])))),(6,yV (aw (hash (3:Int) (words [u64 lv,a,b]))))]] [.ae [6,0,1,2] []] [yI (a6 lv),yR (aj [u64 lv,a,b]),yI (lK [u64 lv,a,b] (by simp only [List.length_cons,List.length_nil];omega)),yI (aR (words [u64 lv,a,b])),yI (nH ((3:Int)) (words [u64 lv,a,b]))]<|zR (bV)
theorem lu (lv:Int) (a b:UInt64):bK Tryz.prog 115 [ai lv,aw a,aw b] (aw (gP lv a b)):=by
 refine zO Tryz.func115 14<|zP 2 [{},yH [(1,yV (aw (u64 lv))),(4,yV (AV.arr (aj [u64 lv,a,b]))),(5,yV (AV.own 1 (ag (words [u64 lv,a,b])))),(6,yV (aw (hash (3:Int) (words [u64 lv,a,b]))))]] [.ae [6,0,1,2] []] [yI (a6 lv),yR (aj [u64 lv,a,b]),yI (dB [u64 lv,a,b] (by simp only [List.length_cons,List.length_nil];omega)),yI (aR (words [u64 lv,a,b])),yI (ix ((3:Int)) (words [u64 lv,a,b]) (by simp only [List.length_cons,List.length_nil,dV];omega))]<|zR (bV)
def fS (seed:UInt64):Nat->Nat->UInt64
 | 0,i=>combine i (bG seed i 18)
 | lv+1,i=>gP ((lv+1:Nat):Int) (fS seed lv (2*i)) (fS seed lv (2*i+1))
theorem rU (seed:UInt64) (lv:Nat):∀(i:Nat),lv≤4->i<2^(40-lv)->bK Tryz.prog 103 [aw seed,ai lv,ai i] (aw (fS seed lv i)):=by
 induction lv with
 | zero =>
  intro i _ hi
  refine zO Tryz.func103 27<|zq<|zS<|zq<|du 8 ((↑(0:Nat):Int) == (0:Int)) fb<|zP 1 [yH [(2,yV (aw (combine (↑i:Int) (bG seed (↑i:Int) 18))))]] [.ae [6,8,0,1,2] []] [yI (Ah seed ((↑i:Int)))]<|dk (bV)
 | succ lv ih =>
  intro i hl hi
  have e:2^(40-lv)=2*2^(40-(lv+1)):=by rw [show 40-lv=40-(lv+1)+1 by omega,Nat.pow_succ,Nat.mul_comm]
  have hp:2^(40-(lv+1))≤2^40:=Nat.pow_le_pow_right (by decide) ah
  obtain ⟨j,hj⟩:∃j:Nat,2*i=j:=⟨_,rfl⟩
  obtain ⟨j2,xV⟩:∃j2:Nat,2*i+1=j2:=⟨_,rfl⟩
  have h1:=ih j ah ah
  have h2:=ih j2 ah ah
  clear ih
  generalize 2^(40-lv)=p1 at *
  generalize 2^(40-(lv+1))=p2 at *
  have ew:fS seed (lv+1) i=gP ((lv+1:Nat):Int) (fS seed lv j) (fS seed lv j2):=by rw [←hj,←xV];rfl
  rw [ew]
  generalize fS seed lv j=n1 at *
  generalize fS seed lv j2=n2 at *
  have e1:IntKind.i64.wrap (((lv+1:Nat):Int)-1)=(lv:Int):=by rw [IntKind.wrap_i64];omega
  have e2:IntKind.i64.wrap (2*(i:Int))=(j:Int):=by rw [IntKind.wrap_i64];omega
  have e3:IntKind.i64.wrap ((j:Int)+1)=(j2:Int):=by rw [IntKind.wrap_i64];omega
  refine zO Tryz.func103 27<|zq<|zS<|zq<|bj 8 ((↑(lv+1):Int) == (0:Int)) bE<|a_<|zP 1 [yH [(3,yV (ai ↑lv)),(5,yV (ai ↑j)),(6,yV (aw n1)),(9,yV (ai ↑lv)),(11,yV (ai ↑j)),(12,yV (ai ↑j2)),(13,yV (aw n2)),(14,yV (aw (gP (↑(lv+1):Int) n1 n2)))]] [.ae [6,8,0,1,2] []] [yI (yc e1),yI (yc e2),yI h1,yI (yc e1),yI (yc e2),yI (yc e3),yI h2,yI (lu (↑(lv+1):Int) n1 n2)]<|zR (bV)
end Go.Proofs.YtjgbhhnghedgdaaGreatDoor
