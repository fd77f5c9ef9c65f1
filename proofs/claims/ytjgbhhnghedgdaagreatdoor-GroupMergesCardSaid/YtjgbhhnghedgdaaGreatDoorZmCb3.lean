import Derived.Test.YtjgbhhnghedgdaaGreatDoorZmCb2
set_option linter.all false
namespace Go.Proofs.YtjgbhhnghedgdaaGreatDoor
open Go.RowKit
set_option maxRecDepth 100000
set_option maxHeartbeats 4000000
instance:Inhabited fJ:=⟨⟨0,0,[]⟩⟩
def vF (l:List fJ):Nat->List Int
 | 0=>[]
 | n+1=>lW (vF l n) (l.getD n default)
def vE (l:List fJ) (i:Nat):Int:=nf (vF l i) i (l.getD i default)
def eT (l:List fJ):Int:=if ff (vE l) l.length≠0 then ff (vE l) l.length else if 0<l.length∧(vF l l.length).length=0 then 0 else 1
theorem KG (fr:List Int) (x:fJ):(lW fr x).length≤fr.length+1:=by
 unfold lW pn
 have h:=A3 x (mT fr)
 rw [B2] at h
 rw [List.length_take];omega
theorem Hq (l:List fJ):∀n,(vF l n).length≤n
 | 0=>Nat.le_refl _
 | n+1=>by
  have:=Hq l n
  have:=KG (vF l n) (l.getD n default)
  show (lW _ _).length≤_
  omega
theorem Mc {l:List fJ}:∀ {n:Nat},(∀j,j<n->(l.getD j default).kind=5->wv (l.getD j default).num≤512)-> ∀k∈vF l n,-(n:Int)≤k∧k≤512
 | 0,_,k,hk=>by cases hk
 | n+1,h,k,hk=>by
  have ih:=Mc (l:=l) (n:=n) (fun j hj=>h j ah)
  have h5:=h n ah
  have hk:k∈pn (lF (l.getD n default) (mT (vF l n))):=hk
  have hk:=List.mem_of_mem_take hk
  have hd:∀k∈mT (vF l n),-((n+1:Nat):Int)≤k∧k≤512:=by
   intro k hk
   unfold mT at hk
   split at hk
   ·have:=ih k hk;omega
   ·rename_i h0
    have hm:=ih ((vF l n).getD ((vF l n).length-1) 0) (by rw [List.getD_eq_getElem?_getD,List.getElem?_eq_getElem ah];exact List.getElem_mem ah)
    rcases List.mem_or_eq_of_mem_set hk with q|q
    ·have:=ih k q;omega
    ·omega
  unfold lF at hk
  split at hk
  ·rename_i hx
   rcases List.mem_append.1 hk with q|q
   ·exact hd k q
   ·have e:=List.mem_singleton.1 q
    have:=h5 hx.1
    omega
  ·exact hd k hk
theorem La {fr:List Int} {c:Nat} {x:fJ} (h:nf fr c x=0) (h5:x.kind=5):wv x.num≤512:=by
 apply Classical.byContradiction
 intro q
 unfold nf at h
 split at h
 ·omega
 ·split at h
  ·rename_i q2;exact q2 h
  ·split at h
   ·omega
   ·split at h
    ·omega
    ·rw [if_pos ⟨h5,ah⟩] at h;omega
theorem y0 {f:Nat->Int}:∀ {n:Nat},ff f n=0-> ∀j,j<n->f j=0
 | 0,_,j,hj=>by omega
 | n+1,h,j,hj=>by
  have h1:ff f n=0:=by
   apply Classical.byContradiction
   intro q
   have:ff f (n+1)=ff f n:=by show (if _ then _ else _)=_;rw [if_pos q]
   omega
  have h2:f n=0:=by
   have:ff f (n+1)=f n:=by show (if _ then _ else _)=_;rw [if_neg ah]
   omega
  by_cases e:j=n
  ·subst e;exact h2
  ·exact y0 h1 j ah
theorem iK (l:List fJ) (hl:l.length≤500) (hk:∀x∈l,eO x.kind) (hd:∀x∈l,x.cI.length≤1000000):bC Tryz.prog 127 [.sl 3 (ae aY l)] (ai (eT l)):=by
 have oJ:(ae aY l).length=l.length*3:=aE (e:=3) (fun _=>rfl) ..
 refine zO Tryz.func127 22<|zQ 2 [{},{}] []<|bf.o7 (bU.LX 3 0 99 3 (r:=⟨1,false,true,[.nil,ai 0]⟩) bt rfl rfl bt)<|zS<|zQ 1 [yH [(1,{k:=l.length})]] [yI oJ]<|zB 0 (zL (fun (i:Nat)=>(⟨[(8,ai (↑l.length:Int)),(7,AV.sl 3 (ae aY l)),(3,AV.addr 3 0),(0,AV.sl 3 (ae aY l)),(9,ai i)],[(3,⟨1,false,true,[.ref 99,ai i]⟩),(99,⟨3,true,false,ae bA (vF l i)⟩)]⟩:AS)) (fun i=>(i≤l.length∧ff (vE l) i=0)) (fun i=>(l.length-i)) (0) ?_ (zW [.aa [8,7,3,0,9] [3,99]]) ?_)
 ·exact ⟨ah,rfl⟩
 rintro i ⟨hi,h0⟩
 have tp:=Hq l i
 have fY:=y0 h0
 have nn:=Mc (l:=l) (n:=i) (fun j hj h5=>La (fY j hj) h5)
 have gJ:∀k∈vF l i,-1000≤k∧k≤1000:=fun k hm=>by have:=nn k hm;omega
 have Qe:(vF l i).length≤1000:=ah
 clear fY nn tp
 refine zq<|zS (zD 10 ((↑i:Int)<(↑l.length:Int)) (fun h=>?_) (fun h=>?_))
 ·have cX:i<l.length:=ah
  have hm:l.getD i default∈l:=by rw [List.getD_eq_getElem?_getD,List.getElem?_eq_getElem cX];exact List.getElem_mem cX
  have Rc:=hk _ hm
  have Ri:=hd _ hm
  by_cases e:nf (vF l i) i (l.getD i default)=0
  ·have dC:=F_ (vF l i) i (l.getD i default) e Rc Qe gJ ah Ri
   have k2:ff (vE l) (i+1)=0:=by show (if _ then _ else _)=_;rw [if_neg ah];exact e
   refine aW<|zS<|zB 1<|zP 3 [yH [(0,{k:=i}),(1,yV (AV.agg (aY (l.getD i default))))],yH [(1,{av:=some (ai 0),ln:=[(3,1000000000000),(99,5)],ho:=[(1000000000000,Row.mk 1 false true [AV.ref 5,ai (↑(i+1):Int)]),(5,Row.mk 3 true false (ae bA (lW (vF l i) (l.getD i default))))]})],{}] [.aa [16,6,5,10,8,7,3,0,9] [3,99,5]] [yR (↑i:Int),yO (i*3<(ae aY l).length),yu aY l i 0 3,yR 3,yL 3 3,yI dC,yB ([AV.ref 99,ai ↑i].length= [AV.ref 5,ai (↑(i+1):Int)].length∧0< [AV.ref 5,ai (↑(i+1):Int)].length) ⟨rfl,Nat.succ_pos _⟩]<|zF 16<|zK<|aM<|ak<|zX (yH [(0,yV (ai ((↑i:Int)+1)))]) [yN ((↑i:Int)+1)] (aH (i+1) ⟨ah,k2⟩ ah (zW [.aa [8,7,3,0,9] [3,99]]))
  ·have dC:=C3 (vF l i) i (l.getD i default) e Rc Qe ah Ri
   have k2:ff (vE l) (i+1)=vE l i:=by show (if _ then _ else _)=_;rw [if_neg ah]
   have k3:=jB (E:=vE l) e k2 l.length ah
   have k4:eT l=nf (vF l i) i (l.getD i default):=by unfold eT;rw [if_pos (by rw [k3];exact e),k3]
   refine aW<|zS<|zB 1<|zP 3 [yH [(0,{k:=i}),(1,yV (AV.agg (aY (l.getD i default))))],yH [(1,{av:=some (ai (nf (vF l i) i (l.getD i default))),ln:=[(3,1000000000000),(99,5)],ho:=[(1000000000000,Row.mk 1 false true [AV.ref 5,ai ↑i]),(5,Row.mk 3 true false (ae bA (vF l i)))]})],{}] [.aa [16,6,5,10,8,7,3,0,9] [3,99,5]] [yR (↑i:Int),yO (i*3<(ae aY l).length),yu aY l i 0 3,yR 3,yL 3 3,yI dC,yB ([AV.ref 99,ai ↑i].length= [AV.ref 5,ai ↑i].length∧0< [AV.ref 5,ai ↑i].length) (by simp [e])]<|dm 16 (nf (vF l i) i (l.getD i default) != (0:Int)) (by simp_all)<|zP 1 [{}] [.aa [2,16,6,5,10,8,7,3,0,9] [3,99,5]] []<|zR<|bc<|aN<|df<|bc<|aN (zV [yJ (nf (vF l i) i (l.getD i default)) (eT l) (by rw [k4])])
 ·have e:i=l.length:=ah
  subst e
  by_cases OX:0<l.length∧(vF l l.length).length=0
  ·have k4:eT l=0:=by unfold eT;rw [if_neg ah,if_pos OX]
   refine zE 0<|aS<|aK<|bg<|ak<|zS<|zP 1 [yH [(1,{av:=some (ao (decide (0<l.length∧(vF l l.length).length=0))),ln:=[(3,1000000000000),(99,5)],ho:=[(1000000000000,Row.mk 1 false true [AV.ref 5,ai (↑l.length:Int)]),(5,Row.mk 3 true false (ae bA (vF l l.length)))]}),(2,yV (ao false))]] [.aa [21,10,8,7,3,0,9] [3,99]] [yI (gi (vF l l.length) l.length ah),yB ([AV.ref 99,ai (↑l.length:Int)].length= [AV.ref 5,ai (↑l.length:Int)].length∧0< [AV.ref 5,ai (↑l.length:Int)].length) ⟨rfl,Nat.succ_pos _⟩,yB (ao (!decide (0<l.length∧(vF l l.length).length=0))=ao false) (by rw [decide_eq_true OX];rfl)]<|zF 21<|aW<|zq<|zR (zV [yJ 0 (eT l) (by rw [k4])])
  ·have k4:eT l=1:=by unfold eT;rw [if_neg ah,if_neg OX]
   refine zE 0<|aS<|aK<|bg<|ak<|zS<|zP 1 [yH [(1,{av:=some (ao (decide (0<l.length∧(vF l l.length).length=0))),ln:=[(3,1000000000000),(99,5)],ho:=[(1000000000000,Row.mk 1 false true [AV.ref 5,ai (↑l.length:Int)]),(5,Row.mk 3 true false (ae bA (vF l l.length)))]}),(2,yV (ao true))]] [.aa [21,10,8,7,3,0,9] [3,99]] [yI (gi (vF l l.length) l.length ah),yB ([AV.ref 99,ai (↑l.length:Int)].length= [AV.ref 5,ai (↑l.length:Int)].length∧0< [AV.ref 5,ai (↑l.length:Int)].length) ⟨rfl,Nat.succ_pos _⟩,yB (ao (!decide (0<l.length∧(vF l l.length).length=0))=ao true) (by rw [decide_eq_false OX];rfl)]<|zT 21<|zq<|dd (zV [yJ 1 (eT l) (by rw [k4])])
def o8 (n:UInt64) (s q:Nat):List UInt8:=(List.range q).map fun j=>(n>>>UInt64.ofNat (8*(s-1-j))).toUInt8
def cG (m:UInt8) (n:UInt64):List UInt8 :=
 if wv n<24 then [m<<<5+n.toUInt8] else if wv n<256 then (m<<<5+24)::o8 n 1 1 else if wv n<65536 then (m<<<5+25)::o8 n 2 2 else if wv n<4294967296 then (m<<<5+26)::o8 n 4 4 else (m<<<5+27)::o8 n 8 8
theorem Eo (n:UInt64) (s q:Nat):(o8 n s q).length=q:=by simp [o8]
theorem Hv (n:UInt64) (s q:Nat):o8 n s (q+1)=o8 n s q++ [(n>>>UInt64.ofNat (8*(s-1-q))).toUInt8]:=by
 unfold o8
 rw [List.range_succ,List.map_append];rfl
def KO (o:List UInt8):List (Nat×Row):=[(5,⟨1,true,false,ag o⟩)]
theorem oo (o:List UInt8) (m:UInt8) (n:UInt64) (ho:o.length≤1000000):gm Tryz.prog 164 [.ref 5,ab m,aw n] (KO o) (.own 1 (ag (o++cG m n))) (KO []):=by
 have Bp:(ag o).length=o.length:=aD o
 have Wy:=L_ n
 refine nj Tryz.func164 58<|zP 3 [{},yH [(1,yV (ab (m<<<(5:UInt8))))],{}] [.aa [8,7,6,0,1,2] [5]] [yI (L5 m ((5:Int)) ah ah),yO ((0:Int)≤5)] ?_
 by_cases h1:wv n<24
 ·have e:cG m n= [m<<<5+n.toUInt8]:=if_pos h1
  refine zS<|zB 0<|zP 1 [{}] [.aa [14,8,7,6,0,1,2] [5]] []<|gN 14 (wv n<24)<|zP 1 [yH [(3,yV (ab n.toUInt8)),(4,yV (ab (m<<<(5:UInt8)+n.toUInt8))),(5,yV (AV.arr (ag [m<<<(5:UInt8)+n.toUInt8]))),(6,yV (AV.arr (ag (o++ [m<<<(5:UInt8)+n.toUInt8]))))]] [.aa [6,14,8,7,1,2] [23]] [yR (ab n.toUInt8),yR (ab (m<<<(5:UInt8)+n.toUInt8)),yR [ab (m<<<(5:UInt8)+n.toUInt8)],yB (ag o++ag [m<<<(5:UInt8)+n.toUInt8]=ag (o++ [m<<<(5:UInt8)+n.toUInt8])) (da _ _),yO (((ag o).length+1)*1≤140737488355328)]<|bf.o7 (bU.add 5 1 bt)<|zR<|bc<|aN (zG [] [yB (ag (o++ [m<<<(5:UInt8)+n.toUInt8])=ag (o++cG m n)) (by rw [e]),yB ([]=ag []) rfl])
 refine bf.nJ (fun (t:UInt8×Nat)=>(⟨[(0,AV.ref 5),(1,ab m),(2,aw n),(7,ab t.1),(8,ai t.2)],[(5,⟨1,true,false,ag o⟩)]⟩:AS)) (fun t=>(cG m n=t.1::o8 n t.2 t.2∧1≤t.2∧t.2≤8)) bt ?_ ?_
 ·by_cases h2:wv n<256
  ·have e:cG m n=(m<<<5+24)::o8 n 1 1:=by unfold cG;rw [if_neg h1,if_pos h2]
   refine zB 0<|zP 1 [{}] [.aa [14,8,7,6,0,1,2] [5]] []<|dq 14 (wv n<24)<|zP 1 [{}] [.aa [24,14,8,7,6,0,1,2] [5]] []<|gN 24 (wv n<256)<|zX (yH [(1,yV (ab (m<<<(5:UInt8)+24)))]) [yR (ab (m<<<(5:UInt8)+24))]<|aM<|ak (⟨(m<<<5+24,1),(by refine ⟨?_,?_⟩<;>omega),(zW [.aa [0,1,2,7,8] [5]])⟩)
  by_cases h3:wv n<65536
  ·have e:cG m n=(m<<<5+25)::o8 n 2 2:=by unfold cG;rw [if_neg h1,if_neg h2,if_pos h3]
   refine zB 0<|zP 1 [{}] [.aa [14,8,7,6,0,1,2] [5]] []<|dq 14 (wv n<24)<|zP 1 [{}] [.aa [24,14,8,7,6,0,1,2] [5]] []<|dq 24 (wv n<256)<|zP 1 [{}] [.aa [29,24,14,8,7,6,0,1,2] [5]] []<|gN 29 (wv n<65536)<|zX (yH [(1,yV (ab (m<<<(5:UInt8)+25)))]) [yR (ab (m<<<(5:UInt8)+25))]<|aM<|ak (⟨(m<<<5+25,2),(by refine ⟨?_,?_⟩<;>omega),(zW [.aa [0,1,2,7,8] [5]])⟩)
  by_cases h4:wv n<4294967296
  ·have e:cG m n=(m<<<5+26)::o8 n 4 4:=by unfold cG;rw [if_neg h1,if_neg h2,if_neg h3,if_pos h4]
   refine zB 0<|zP 1 [{}] [.aa [14,8,7,6,0,1,2] [5]] []<|dq 14 (wv n<24)<|zP 1 [{}] [.aa [24,14,8,7,6,0,1,2] [5]] []<|dq 24 (wv n<256)<|zP 1 [{}] [.aa [29,24,14,8,7,6,0,1,2] [5]] []<|dq 29 (wv n<65536)<|zP 1 [{}] [.aa [34,29,24,14,8,7,6,0,1,2] [5]] []<|gN 34 (wv n<4294967296)<|zX (yH [(1,yV (ab (m<<<(5:UInt8)+26)))]) [yR (ab (m<<<(5:UInt8)+26))]<|aM<|ak (⟨(m<<<5+26,4),(by refine ⟨?_,?_⟩<;>omega),(zW [.aa [0,1,2,7,8] [5]])⟩)
  ·have e:cG m n=(m<<<5+27)::o8 n 8 8:=by unfold cG;rw [if_neg h1,if_neg h2,if_neg h3,if_neg h4]
   refine zB 0<|zP 1 [{}] [.aa [14,8,7,6,0,1,2] [5]] []<|dq 14 (wv n<24)<|zP 1 [{}] [.aa [24,14,8,7,6,0,1,2] [5]] []<|dq 24 (wv n<256)<|zP 1 [{}] [.aa [29,24,14,8,7,6,0,1,2] [5]] []<|dq 29 (wv n<65536)<|zP 1 [{}] [.aa [34,29,24,14,8,7,6,0,1,2] [5]] []<|dq 34 (wv n<4294967296)<|zX (yH [(1,yV (ab (m<<<(5:UInt8)+27)))]) [yR (ab (m<<<(5:UInt8)+27))]<|aM<|ak (⟨(m<<<5+27,8),(by refine ⟨?_,?_⟩<;>omega),(zW [.aa [0,1,2,7,8] [5]])⟩)
 rintro ⟨f,s⟩ ⟨e,s1,s8⟩
 simp only at e s1 s8
 have Bq:=Eo n s
 refine zP 1 [yH [(2,yV (AV.arr (ag [f]))),(3,yV (AV.ref 42))]] [.aa [0,1,2,7,8] [42]] [yR [ab f],yO (((ag o).length+1)*1≤140737488355328)]<|zS<|zP 1 [yH [(1,yV (ai ((↑s:Int)-1)))]] [.aa [9,0,1,2,7,8] [42]] [yN ((↑s:Int)-1)]<|zB 1 (zL (fun (q:Nat)=>(⟨[(1,ab m),(2,aw n),(7,ab f),(8,ai ↑s),(9,ai ((s:Int)-1-q)),(0,AV.ref 42)],[(42,⟨1,true,false,ag (o++f::o8 n s q)⟩)]⟩:AS)) (fun q=>(q≤s)) (fun q=>(s-q)) (0) ?_ (eu [.aa [1,2,7,8,9,0] [42]] [9] [42] [yB (ai ((↑s:Int)-1)=ai ((↑s:Int)-1-(↑(0:Nat):Int))) (congrArg (fun n=>AV.val (.int .i64 n)) ah),yB (ag o++ag [f]=ag (o++f::o8 n s 0)) (by rw [da];rfl)]) ?_)
 ·omega
 intro q hq
 have Ve:=Eo n s q
 have WB:(ag (o++f::o8 n s q)).length=o.length+(q+1):=by rw [aD,List.length_append,List.length_cons,Ve]
 refine zS<|zP 1 [{}] [.aa [46,1,2,7,8,9,0] [42]] [] (zD 46 ((↑s:Int)-1-(↑q:Int)≥0) (fun h=>?_) (fun h=>?_))
 ·have w:IntKind.i64.wrap (8*((s:Int)-1-q))=((8*(s-1-q):Nat):Int):=by rw [IntKind.wrap_i64];omega
  refine aW<|zS<|zB 2<|zX (yH [(3,yV (ai (↑(8*(s-1-q)):Int))),(4,yV (aw (n>>>UInt64.ofNat (↑(8*(s-1-q)):Int).toNat))),(5,yV (ab ((n>>>UInt64.ofNat (↑(8*(s-1-q)):Int).toNat).toUInt8))),(6,yV (AV.arr (ag [(n>>>UInt64.ofNat (↑(8*(s-1-q)):Int).toNat).toUInt8]))),(7,yV (AV.arr (ag (o++f::o8 n s q++ [(n>>>UInt64.ofNat (↑(8*(s-1-q)):Int).toNat).toUInt8]))))]) [yI (yc w),yI (fq n ((↑(8*(s-1-q)):Int)) ah ah),yO ((0:Int)≤(↑(8*(s-1-q)):Int)),yR (ab ((n>>>UInt64.ofNat (↑(8*(s-1-q)):Int).toNat).toUInt8)),yR [ab ((n>>>UInt64.ofNat (↑(8*(s-1-q)):Int).toNat).toUInt8)],yB (ag (o++f::o8 n s q)++ag [(n>>>UInt64.ofNat (↑(8*(s-1-q)):Int).toNat).toUInt8]=ag (o++f::o8 n s q++ [(n>>>UInt64.ofNat (↑(8*(s-1-q)):Int).toNat).toUInt8])) (da _ _),yO (((ag (o++f::o8 n s q)).length+1)*1≤140737488355328)]<|aM<|ak<|zX (yH [(1,yV (ai ((↑s:Int)-1-(↑q:Int)-1)))]) [yN ((↑s:Int)-1-(↑q:Int)-1)] (aH (q+1) ah ah (eu [.vK 56 42,.aa [1,2,7,8,9,0] [42]] [9] [42] [yB (ai ((↑s:Int)-1-(↑q:Int)-1)=ai ((↑s:Int)-1-(↑(q+1):Int))) (congrArg (fun n=>AV.val (.int .i64 n)) ah),yB (ag (o++f::o8 n s q++ [(n>>>UInt64.ofNat (↑(8*(s-1-q)):Int).toNat).toUInt8])=ag (o++f::o8 n s (q+1))) (congrArg ag (by rw [Hv,Int.toNat_natCast];simp))]))
 ·have e2:q=s:=ah
  subst e2
  refine bf.o7 (bU.add 5 1 bt)<|zE 1<|aS<|aK<|bg<|ak<|zq<|zR (zG [] [yB (ag (o++f::o8 n q q)=ag (o++cG m n)) (by rw [e]),yB ([]=ag []) rfl])
def jl (x:fJ):List UInt8:=if x.kind=3∨x.kind=4 then cG (u8 (x.kind-1)) (u64 x.cI.length)++x.cI else cG (u8 (x.kind-1)) x.num
theorem l8 (m:UInt8) (n:UInt64):(cG m n).length≤9:=by
 unfold cG
 split
 ·simp
 ·split
  ·simp [o8]
  ·split
   ·simp [o8]
   ·split<;>simp [o8]
theorem zI (o:List UInt8) (x:fJ) (hk:eO x.kind) (ho:o.length≤900000) (hd:x.cI.length≤10000):gm Tryz.prog 128 [.ref 5,.agg (aY x)] (KO o) (.own 1 (ag (o++jl x))) (KO []):=by
 have hz:(⟨x.cI.toArray⟩:ByteArray).size≤maxLen:=by
  show x.cI.toArray.size≤_
  unfold maxLen
  simp;omega
 rcases hk with h|h|h|h
 ·have e:jl x=cG (u8 (x.kind-1)) x.num:=if_neg ah
  refine nj Tryz.func128 46<|zq<|zS<|zq<|zB 0<|zP 1 [{}] [.aa [7,6,4,3,0,1] [3,5]] []<|bj 7 (x.kind == (7:Int)) bD<|zq<|bj 16 (x.kind == (8:Int)) bD<|zS<|zP 1 [{}] [.aa [21,16,7,6,4,3,0,1] [3,5]] []<|bj 21 (x.kind == (3:Int)) bD<|zX {} []<|ak<|bj 21 (x.kind == (4:Int)) bD<|zK<|aM<|ak<|zP 1 [yH [(3,yV (ai (x.kind-1))),(4,yV (ab (u8 (x.kind-1)))),(7,{av:=some (AV.own 1 (ag (o++cG (u8 (x.kind-1)) x.num))),ln:=[(5,5)],ho:=[(5,Row.mk 1 true false (ag []))]})]] [.aa [4,21,16,7,6,3,1] [45,5,3]] [yN (x.kind-1),yI (i3 (x.kind-1)),yI (oo o (u8 (x.kind-1)) x.num ah)]<|zR (zG [] [yB (ag (o++cG (u8 (x.kind-1)) x.num)=ag (o++jl x)) (by rw [e]),yR (ag [])])
 ·have e:jl x=cG (u8 (x.kind-1)) (u64 x.cI.length)++x.cI:=if_pos ah
  have hl:=l8 (u8 (x.kind-1)) (u64 x.cI.length)
  have hb:(ag (o++cG (u8 (x.kind-1)) (u64 x.cI.length))).length≤900009:=by rw [aD,List.length_append];omega
  have rF:(ag x.cI.toArray.toList).length≤10000:=by rw [aD];exact hd
  refine nj Tryz.func128 46<|zq<|zS<|zq<|zB 0<|zP 1 [{}] [.aa [7,6,4,3,0,1] [3,5]] []<|bj 7 (x.kind == (7:Int)) bD<|zq<|bj 16 (x.kind == (8:Int)) bD<|zS<|zP 1 [{}] [.aa [21,16,7,6,4,3,0,1] [3,5]] []<|dm 21 (x.kind == (3:Int)) eg<|aW<|dm 21 (x.kind == (3:Int)) eg<|zP 2 [yH [(3,yV (ai (x.kind-1))),(4,yV (ab (u8 (x.kind-1)))),(7,yV (ai (↑x.cI.length:Int))),(8,yV (aw (u64 (↑x.cI.length:Int)))),(9,{av:=some (AV.own 1 (ag (o++cG (u8 (x.kind-1)) (u64 (↑x.cI.length:Int))))),ln:=[(5,5)],ho:=[(5,Row.mk 1 true false (ag []))]})],yH [(3,{av:=some (AV.arr (ag (o++cG (u8 (x.kind-1)) (u64 (↑x.cI.length:Int))++x.cI.toArray.toList))),b:=false})]] [.aa [4,21,16,7,6,3,1] [37,5,3]] [yN (x.kind-1),yI (i3 (x.kind-1)),yR (ai (↑x.cI.length:Int)),yI (ba ((↑x.cI.length:Int))),yI (oo o (u8 (x.kind-1)) (u64 (↑x.cI.length:Int)) ah),yB (ag (o++cG (u8 (x.kind-1)) (u64 (↑x.cI.length:Int)))++ag x.cI.toArray.toList=ag (o++cG (u8 (x.kind-1)) (u64 (↑x.cI.length:Int))++x.cI.toArray.toList)) (da _ _),yB (cE (ag x.cI.toArray.toList)) (fW _),yO (((ag (o++cG (u8 (x.kind-1)) (u64 (↑x.cI.length:Int)))).length+(ag x.cI.toArray.toList).length)*1≤140737488355328)]<|zR<|bc<|aN (zG [] [yB (ag (o++cG (u8 (x.kind-1)) (u64 (↑x.cI.length:Int))++x.cI.toArray.toList)=ag (o++jl x)) (by rw [e];simp),yR (ag [])])
 ·have e:jl x=cG (u8 (x.kind-1)) (u64 x.cI.length)++x.cI:=if_pos ah
  have hl:=l8 (u8 (x.kind-1)) (u64 x.cI.length)
  have hb:(ag (o++cG (u8 (x.kind-1)) (u64 x.cI.length))).length≤900009:=by rw [aD,List.length_append];omega
  have rF:(ag x.cI.toArray.toList).length≤10000:=by rw [aD];exact hd
  refine nj Tryz.func128 46<|zq<|zS<|zq<|zB 0<|zP 1 [{}] [.aa [7,6,4,3,0,1] [3,5]] []<|bj 7 (x.kind == (7:Int)) bD<|zq<|bj 16 (x.kind == (8:Int)) bD<|zS<|zP 1 [{}] [.aa [21,16,7,6,4,3,0,1] [3,5]] []<|bj 21 (x.kind == (3:Int)) bD<|zX {} []<|ak<|dm 21 (x.kind == (4:Int)) eg<|zP 2 [yH [(3,yV (ai (x.kind-1))),(4,yV (ab (u8 (x.kind-1)))),(7,yV (ai (↑x.cI.length:Int))),(8,yV (aw (u64 (↑x.cI.length:Int)))),(9,{av:=some (AV.own 1 (ag (o++cG (u8 (x.kind-1)) (u64 (↑x.cI.length:Int))))),ln:=[(5,5)],ho:=[(5,Row.mk 1 true false (ag []))]})],yH [(3,{av:=some (AV.arr (ag (o++cG (u8 (x.kind-1)) (u64 (↑x.cI.length:Int))++x.cI.toArray.toList))),b:=false})]] [.aa [4,21,16,7,6,3,1] [37,5,3]] [yN (x.kind-1),yI (i3 (x.kind-1)),yR (ai (↑x.cI.length:Int)),yI (ba ((↑x.cI.length:Int))),yI (oo o (u8 (x.kind-1)) (u64 (↑x.cI.length:Int)) ah),yB (ag (o++cG (u8 (x.kind-1)) (u64 (↑x.cI.length:Int)))++ag x.cI.toArray.toList=ag (o++cG (u8 (x.kind-1)) (u64 (↑x.cI.length:Int))++x.cI.toArray.toList)) (da _ _),yB (cE (ag x.cI.toArray.toList)) (fW _),yO (((ag (o++cG (u8 (x.kind-1)) (u64 (↑x.cI.length:Int)))).length+(ag x.cI.toArray.toList).length)*1≤140737488355328)]<|zR<|bc<|aN (zG [] [yB (ag (o++cG (u8 (x.kind-1)) (u64 (↑x.cI.length:Int))++x.cI.toArray.toList)=ag (o++jl x)) (by rw [e];simp),yR (ag [])])
 ·have e:jl x=cG (u8 (x.kind-1)) x.num:=if_neg ah
  refine nj Tryz.func128 46<|zq<|zS<|zq<|zB 0<|zP 1 [{}] [.aa [7,6,4,3,0,1] [3,5]] []<|bj 7 (x.kind == (7:Int)) bD<|zq<|bj 16 (x.kind == (8:Int)) bD<|zS<|zP 1 [{}] [.aa [21,16,7,6,4,3,0,1] [3,5]] []<|bj 21 (x.kind == (3:Int)) bD<|zX {} []<|ak<|bj 21 (x.kind == (4:Int)) bD<|zK<|aM<|ak<|zP 1 [yH [(3,yV (ai (x.kind-1))),(4,yV (ab (u8 (x.kind-1)))),(7,{av:=some (AV.own 1 (ag (o++cG (u8 (x.kind-1)) x.num))),ln:=[(5,5)],ho:=[(5,Row.mk 1 true false (ag []))]})]] [.aa [4,21,16,7,6,3,1] [45,5,3]] [yN (x.kind-1),yI (i3 (x.kind-1)),yI (oo o (u8 (x.kind-1)) x.num ah)]<|zR (zG [] [yB (ag (o++cG (u8 (x.kind-1)) x.num)=ag (o++jl x)) (by rw [e]),yR (ag [])])
def gT (l:List fJ):List UInt8:=l.flatMap jl
def GM (l:List fJ):List UInt8:=if eT l=0 then gT l else []
theorem BX (x:fJ):(jl x).length≤9+x.cI.length:=by
 unfold jl
 split
 ·have:=l8 (u8 (x.kind-1)) (u64 x.cI.length)
  rw [List.length_append];omega
 ·have:=l8 (u8 (x.kind-1)) x.num
  omega
theorem qB:∀ {l:List fJ} {n:Nat},(∀x∈l,x.cI.length≤10000)->l.length≤n->(gT l).length≤10009*n
 | [],n,_,_=>Nat.zero_le _
 | x::l,n,h,hn=>by
  have ih:=qB (l:=l) (n:=n-1) (fun y hy=>h y (by simp [hy])) (by simp at hn;omega)
  have h1:=BX x
  have h2:=h x (by simp)
  simp only [List.length_cons] at hn
  show (jl x++gT l).length≤_
  rw [List.length_append];omega
theorem DP (l:List fJ) (hl:l.length≤50) (hk:∀x∈l,eO x.kind) (hd:∀x∈l,x.cI.length≤10000):bC Tryz.prog 77 [.sl 3 (ae aY l)] (.bk [.own 1 (ag (GM l)),ai (eT l)]):=by
 have oJ:(ae aY l).length=l.length*3:=aE (e:=3) (fun _=>rfl) ..
 have z8:∀x∈l,x.cI.length≤1000000:=fun x hx=>by have:=hd x hx;omega
 by_cases h:eT l=0
 case neg =>
  have e:GM l= []:=if_neg h
  refine zO Tryz.func77 24<|zq<|zS<|zP 2 [yH [(1,yV (ai (eT l)))],yH [(1,yV (ao true))]] [.aa [11,4,3,2,0] []] [yI (iK l ah hk z8),yB (ao (eT l != (0:Int))=ao true) (by simp [h])]<|zT 11<|zq<|dd (zV [yB (ag (GM l)= []) (by rw [e];rfl),yR (Value.int .i64 (eT l))])
 have e:GM l=gT l:=if_pos h
 refine zO Tryz.func77 24<|zq<|zS<|zP 2 [yH [(1,yV (ai (eT l)))],yH [(1,yV (ao false))]] [.aa [11,4,3,2,0] []] [yI (iK l ah hk z8),yB (ao (eT l != (0:Int))=ao false) (by simp [h])]<|zF 11<|aW<|zq<|zS<|zQ 1 [yH [(1,{k:=l.length})]] [yI oJ]<|zB 0 (zL (fun (i:Nat)=>(⟨[(14,ai (↑l.length:Int)),(13,AV.sl 3 (ae aY l)),(11,ao false),(4,ai (eT l)),(3,ai 0),(2,AV.nil),(0,AV.sl 3 (ae aY l)),(15,ai i),(5,AV.ref 21)],[(21,⟨1,true,false,ag (gT (l.take i))⟩)]⟩:AS)) (fun i=>(i≤l.length)) (fun i=>(l.length-i)) (0) ?_ (zW [.nil 5 21 1,.aa [14,13,11,4,3,2,0,15,5] [21]]) ?_)
 ·omega
 intro i hi
 have NF:(gT (l.take i)).length≤10009*i:=qB (fun x hx=>hd x (List.mem_of_mem_take hx)) (by rw [List.length_take];omega)
 refine zq<|zS (zD 16 ((↑i:Int)<(↑l.length:Int)) (fun h2=>?_) (fun h2=>?_))
 ·have cX:i<l.length:=ah
  have hm:l.getD i default∈l:=by rw [List.getD_eq_getElem?_getD,List.getElem?_eq_getElem cX];exact List.getElem_mem cX
  have Rc:=hk _ hm
  have Ri:=hd _ hm
  have es:gT (l.take i)++jl (l.getD i default)=gT (l.take (i+1)):=by
   rw [List.take_succ_eq_append_getElem cX]
   unfold gT
   rw [List.flatMap_append,List.getD_eq_getElem?_getD,List.getElem?_eq_getElem cX]
   simp
  refine aW<|zS<|zB 1<|zP 1 [yH [(0,{k:=i}),(1,yV (AV.agg (aY (l.getD i default))))]] [.aa [7,16,14,13,11,4,3,2,0,15,5] [7,21]] [yR (↑i:Int),yO (i*3<(ae aY l).length),yu aY l i 0 3,yR 3,yL 3 3]<|zX (yH [(2,{av:=some (AV.own 1 (ag (gT (List.take i l)++jl (l.getD i default)))),ln:=[(21,5)],ho:=[(5,Row.mk 1 true false (ag []))]})]) [yI (zI (gT (List.take i l)) (l.getD i default) Rc ah Ri)]<|aM<|ak<|zX (yH [(0,yV (ai ((↑i:Int)+1)))]) [yN ((↑i:Int)+1)] (aH (i+1) (by assumption) ah (eu [.aa [14,13,11,4,3,2,0,15,5] [21]] [] [21] [yB (ag (gT (List.take i l)++jl (l.getD i default))=ag (gT (List.take (i+1) l))) (congrArg ag es)]))
 ·have e2:i=l.length:=ah
  subst e2
  refine zE 0<|aS<|aK<|bg<|ak<|zq<|zR (zV [yB (ag (gT (List.take l.length l))=ag (GM l)) (by rw [e,List.take_length]),yJ 0 (eT l) (by rw [h])])
def dj (l:List fJ):List AV:=[.sl 3 (ae aY l)]
def aJ (n:UInt64):fJ:=⟨1,n,[]⟩
def cz (b:List UInt8):fJ:=⟨4,0,b⟩
def dY (b:List UInt8):fJ:=⟨3,0,b⟩
def bF (n:UInt64):fJ:=⟨5,n,[]⟩
theorem gX (n:UInt64):bC Tryz.prog 75 [aw n] (.own 3 (ae aY [aJ n])):=by
 refine zO Tryz.func75 6<|zP 2 [{},{}] [.aa [2,0] [5]] []<|zR (bL)
theorem tS (b:List UInt8):bC Tryz.prog 122 [cQ b] (.own 3 (ae aY [cz b])):=by
 refine zO Tryz.func122 6<|zP 2 [{},{}] [.aa [2,0] [5]] []<|zR (bL)
theorem B6 (b:List UInt8) (hb:b.length≤1000000):bC Tryz.prog 123 [.sl 1 (ag b)] (.own 3 (ae aY [dY b])):=by
 refine zO Tryz.func123 7<|zP 2 [{},yH [(1,yV (cQ b))]] [.aa [2,0] [6]] [yR (ag b)]<|zR (bL)
theorem ET {l:List (List fJ)} {i:Nat} (h:i<l.length):(ae dj l)[i]?=some (.sl 3 (ae aY (l.getD i default))):=by
 have:=mS (f:=dj) (e:=1) (l:=l) (k:=i) (j:=0) (fun _=>rfl) h (c:=.sl 3 (ae aY (l.getD i default))) rfl
 simpa using this
structure Kb (vs:List (List fJ)):Prop where
 len:vs.length≤20
 each:∀v∈vs,v.length≤20
 kind:∀v∈vs,∀x∈v,eO x.kind
 cI:∀v∈vs,∀x∈v,x.cI.length≤10000
def oL (vs:List (List fJ)) (i:Nat):Int:=eT (vs.getD i default)
theorem Dn (vs:List (List fJ)) (hv:Kb vs):bC Tryz.prog 125 [.sl 1 (ae dj vs)] (ai (ff (oL vs) vs.length)):=by
 have Uo:=hv.len
 have oJ:(ae dj vs).length=vs.length:=by rw [aE (e:=1) (fun _=>rfl)];omega
 refine zO Tryz.func125 18<|zq<|zS<|zQ 1 [yH [(1,{k:=(ae dj vs).length})]] [yR ((ae dj vs).length)]<|zB 0 (zL (fun (i:Nat)=>(⟨[(7,ai (↑(ae dj vs).length:Int)),(6,AV.sl 1 (ae dj vs)),(0,AV.sl 1 (ae dj vs)),(8,ai i)],[]⟩:AS)) (fun i=>(i≤vs.length∧ff (oL vs) i=0)) (fun i=>(vs.length-i)) (0) ?_ (zW [.aa [7,6,0,8] []]) ?_)
 ·exact ⟨ah,rfl⟩
 rintro i ⟨hi,h0⟩
 refine zq<|zS (zD 9 ((↑i:Int)<(↑(ae dj vs).length:Int)) (fun h=>?_) (fun h=>?_))
 ·have cX:i<vs.length:=ah
  have gh:=ET cX
  have hm:vs.getD i default∈vs:=by rw [List.getD_eq_getElem?_getD,List.getElem?_eq_getElem cX];exact List.getElem_mem cX
  have he:=hv.each _ hm
  have hk:=hv.kind _ hm
  have z8:∀x∈vs.getD i default,x.cI.length≤1000000:=fun x hx=>by have:=hv.cI _ hm x hx;omega
  by_cases e:eT (vs.getD i default)=0
  ·have k2:ff (oL vs) (i+1)=0:=by show (if _ then _ else _)=_;rw [if_neg ah];exact e
   refine aW<|zS<|zB 1<|zP 3 [yH [(0,{k:=i}),(1,yV (AV.sl 3 (ae aY (vs.getD i default))))],yH [(1,yV (ai (eT (vs.getD i default))))],{}] [.aa [15,5,4,9,7,6,0,8] []] [yR (↑i:Int),yO (i<(ae dj vs).length),yI gh,yI (iK (vs.getD i default) ah hk z8)]<|bj 15 (eT (vs.getD i default) != (0:Int)) (by simp_all)<|zK<|aM<|ak<|zX (yH [(0,yV (ai ((↑i:Int)+1)))]) [yN ((↑i:Int)+1)] (aH (i+1) ⟨ah,k2⟩ ah (zW [.aa [7,6,0,8] []]))
  ·have k2:ff (oL vs) (i+1)=oL vs i:=by show (if _ then _ else _)=_;rw [if_neg ah]
   have k3:=jB (E:=oL vs) e k2 vs.length ah
   refine aW<|zS<|zB 1<|zP 3 [yH [(0,{k:=i}),(1,yV (AV.sl 3 (ae aY (vs.getD i default))))],yH [(1,yV (ai (eT (vs.getD i default))))],{}] [.aa [15,5,4,9,7,6,0,8] []] [yR (↑i:Int),yO (i<(ae dj vs).length),yI gh,yI (iK (vs.getD i default) ah hk z8)]<|dm 15 (eT (vs.getD i default) != (0:Int)) (by simp_all)<|zq<|zR<|bc<|aN<|df<|bc<|aN (zV [yJ (eT (vs.getD i default)) (ff (oL vs) vs.length) (by rw [k3])])
 ·have e:i=vs.length:=ah
  subst e
  refine zE 0<|aS<|aK<|bg<|ak<|zq<|zR (zV [yJ 0 (ff (oL vs) vs.length) (by rw [h0])])
theorem B5 (l:List fJ) (e:eT l=0) (hl:l.length≤500) (hk:∀x∈l,eO x.kind) (z8:∀x∈l,x.cI.length≤1000000):bC Tryz.prog 126 [.sl 3 (ae aY l)] (.bk [.sl 3 (ae aY l),ai 0]):=by
 refine zO Tryz.func126 11<|zq<|zS<|zP 2 [yH [(1,yV (ai (eT l)))],yH [(1,yV (ao false))]] [.aa [8,4,3,2,0] []] [yI (iK l hl hk z8),yB (ao (eT l != (0:Int))=ao false) (by simp [e])]<|zF 8<|aW<|zq<|zR (bL)
def pN (vs:List (List fJ)):List fJ:=bF (u64 vs.length)::vs.flatten
theorem EU {vs:List (List fJ)} (hv:Kb vs):∀x∈pN vs,eO x.kind∧x.cI.length≤10000:=by
 intro x hx
 rcases List.mem_cons.1 hx with rfl|hx
 ·exact ⟨.inr (.inr (.inr rfl)),Nat.zero_le _⟩
 ·obtain ⟨v,hm,OJ⟩:=List.mem_flatten.1 hx
  exact ⟨hv.kind v hm x OJ,hv.cI v hm x OJ⟩
theorem yr:∀ {vs:List (List fJ)} {n:Nat},(∀v∈vs,v.length≤20)->vs.length≤n->vs.flatten.length≤20*n
 | [],n,_,_=>Nat.zero_le _
 | v::vs,n,h,hn=>by
  simp only [List.length_cons] at hn
  have ih:=yr (vs:=vs) (n:=n-1) (fun y hy=>h y (by simp [hy])) ah
  have h1:=h v (by simp)
  rw [List.flatten_cons,List.length_append];omega
theorem wZ (x:fJ):cE (aY x):=dL rfl
theorem rX (vs:List (List fJ)) (hv:Kb vs) (hf:ff (oL vs) vs.length=0) (e:eT (pN vs)=0):bC Tryz.prog 76 [.sl 1 (ae dj vs)] (.bk [.sl 3 (ae aY (pN vs)),ai 0]):=by
 have Uo:=hv.len
 have oJ:(ae dj vs).length=vs.length:=by rw [aE (e:=1) (fun _=>rfl)];omega
 have tp:=yr (vs:=vs) (n:=20) hv.each Uo
 have vO:(pN vs).length≤500:=by show vs.flatten.length+1≤_;omega
 have WJ:∀x∈pN vs,eO x.kind:=fun x hx=>(EU hv x hx).1
 have WK:∀x∈pN vs,x.cI.length≤1000000:=fun x hx=>by have:=(EU hv x hx).2;omega
 refine zO Tryz.func76 35<|zq<|zS<|zP 2 [yH [(1,yV (ai (ff (oL vs) vs.length)))],yH [(1,yV (ao false))]] [.aa [11,4,3,2,0] []] [yI (Dn vs hv),yB (ao (ff (oL vs) vs.length != (0:Int))=ao false) (by simp [hf])]<|zF 11<|aW<|zP 1 [yH [(1,{k:=(ae dj vs).length}),(2,yV (aw (u64 (↑(ae dj vs).length:Int))))]] [.aa [5,11,4,3,2,0] [17]] [yR ((ae dj vs).length),yI (ba (↑(ae dj vs).length:Int))]<|zS<|zQ 1 [yH [(1,{k:=(ae dj vs).length})]] [yR ((ae dj vs).length)]<|zB 0 (zL (fun (i:Nat)=>(⟨[(19,ai (↑(ae dj vs).length:Int)),(18,AV.sl 1 (ae dj vs)),(11,ao false),(4,ai (ff (oL vs) vs.length)),(3,ai 0),(2,AV.nil),(0,AV.sl 1 (ae dj vs)),(20,ai i),(5,AV.ref 29)],[(29,⟨3,true,false,ae aY (bF (u64 vs.length)::(vs.take i).flatten)⟩)]⟩:AS)) (fun i=>(i≤vs.length)) (fun i=>(vs.length-i)) (0) ?_ (eu [.vK 17 29,.loose 29,.aa [19,18,11,4,3,2,0,20,5] [29]] [] [29] [yB ([ai 5,aw (u64 (↑(ae dj vs).length:Int)),AV.val (Value.string (ByteArray.mk #[]))]=ae aY (bF (u64 (↑vs.length:Int))::(List.take 0 vs).flatten)) (by rw [oJ];rfl)]) ?_)
 ·omega
 intro i hi
 have WH:=yr (vs:=vs.take i) (n:=20) (fun v hm=>hv.each v (List.mem_of_mem_take hm)) (by rw [List.length_take];omega)
 have Rb:(ae aY (bF (u64 vs.length)::(vs.take i).flatten)).length≤1203:=by rw [aE (e:=3) (fun _=>rfl),List.length_cons];omega
 have Ll:(bF (u64 vs.length)::(vs.take i).flatten).length≤401:=by rw [List.length_cons];omega
 refine zq<|zS (zD 21 ((↑i:Int)<(↑(ae dj vs).length:Int)) (fun h=>?_) (fun h=>?_))
 ·have cX:i<vs.length:=ah
  have gh:=ET cX
  have hm:vs.getD i default∈vs:=by rw [List.getD_eq_getElem?_getD,List.getElem?_eq_getElem cX];exact List.getElem_mem cX
  have he:=hv.each _ hm
  have NF:(ae aY (vs.getD i default)).length≤60:=by rw [aE (e:=3) (fun _=>rfl)];omega
  have es:ae aY (bF (u64 vs.length)::(vs.take i).flatten)++ae aY (vs.getD i default)=ae aY (bF (u64 vs.length)::(vs.take (i+1)).flatten):=by
   have ef:(vs.take (i+1)).flatten=(vs.take i).flatten++vs.getD i default:=by
    rw [List.take_succ_eq_append_getElem cX,List.flatten_append,List.getD_eq_getElem?_getD,List.getElem?_eq_getElem cX]
    simp
   rw [fG,ef];rfl
  refine aW<|zS<|zB 1<|zP 1 [yH [(0,{k:=i}),(1,yV (AV.sl 3 (ae aY (vs.getD i default))))]] [.aa [7,21,19,18,11,4,3,2,0,20,5] [29]] [yR (↑i:Int),yO (i<(ae dj vs).length),yI gh]<|zS<|zP 1 [yH [(1,{k:=(bF (u64 (↑vs.length:Int))::(List.take i vs).flatten).length})]] [.aa [26,7,21,19,18,11,4,3,2,0,20,5] [29]] [yB ((ae aY (bF (u64 (↑vs.length:Int))::(List.take i vs).flatten)).length=(bF (u64 (↑vs.length:Int))::(List.take i vs).flatten).length*3) (by simp only [aE (f:=aY) (e:=3) (fun _=>rfl)])]<|dq 26 ((↑(bF (u64 (↑vs.length:Int))::(List.take i vs).flatten).length:Int)>512)<|aW<|zX (yH [(2,{b:=false})]) [yB (cE (ae aY (vs.getD i default))) (dD (fun x=>wZ x) _),yO (((ae aY (bF (u64 (↑vs.length:Int))::(List.take i vs).flatten)).length+(ae aY (vs.getD i default)).length)*32≤422212465065984)]<|aM<|ak<|zX (yH [(0,yV (ai ((↑i:Int)+1)))]) [yN ((↑i:Int)+1)] (aH (i+1) (by assumption) ah (eu [.aa [19,18,11,4,3,2,0,20,5] [29]] [] [29] [yI es]))
 ·have e2:i=vs.length:=ah
  subst e2
  rw [List.take_length]
  refine zE 0<|aS<|aK<|bg<|ak<|zP 1 [yH [(1,{av:=some (AV.bk [AV.sl 3 (ae aY (bF (u64 (↑vs.length:Int))::vs.flatten)),ai 0]),b:=false})]] [.aa [3,2,21,19,18,11,4,0,20,5] []] [yI (B5 (bF (u64 (↑vs.length:Int))::vs.flatten) (by assumption) (by assumption) (by assumption) (by assumption))]<|zR (bL)
structure eS (x:fJ):Prop where
 kind:x.kind=1∨x.kind=3∨x.kind=4
 UB:gQ x=true
 cI:x.cI.length≤1024
 acc:qO x=0
theorem eS.uint (n:UInt64):eS (aJ n):=⟨.inl rfl,rfl,Nat.zero_le _,rfl⟩
theorem eS.byte {b:List UInt8} (h:b.length≤1024):eS (dY b):=⟨.inr (.inl rfl),rfl,h,rfl⟩
theorem eS.text {b:List UInt8} (h:b.length≤1024) (hv:Lib.validD b=true):eS (cz b):=⟨.inr (.inr rfl),rfl,h,by
 unfold qO
 rw [if_neg]
 rintro ⟨-,q⟩
 have q:Lib.validD b=false:=q
 rw [hv] at q;cases q⟩
theorem tl {fr:List Int} {c:Nat} {x:fJ} (h:eS x) (h1:c=0∨fr.length≠0) (h2:c<512) (h3:fr.length≤8):nf fr c x=0:=by
 have hk:=h.kind
 have ha:fc c fr.length x.kind=0:=by unfold fc;rw [if_neg ah,if_neg ah,if_neg ah]
 have hd:=h.cI
 unfold nf
 rw [if_neg ah,if_neg ah,if_neg (by rw [h.UB];decide),if_neg ah,if_neg ah]
 exact h.acc
theorem Hz {x:fJ} (h:eS x) (k:Int):lW [k] x=if k=1 then [] else [k-1]:=by
 have hk:=h.kind
 have hp:lF x (mT [k])= [k-1]:=by
  unfold lF
  rw [if_neg ah]
  rfl
 unfold lW
 rw [hp]
 unfold pn
 by_cases e:k=1
 ·subst e;rfl
 ·rw [if_neg e]
  have:lG [k-1] 1=1:=by
   show (if ([k-1]:List Int).getD 0 0=0 then _ else _)=_
   rw [if_neg]
   show ¬(k-1=0)
   omega
  show List.take (lG [k-1] 1) [k-1]=_
  rw [this];rfl
theorem KF {x:fJ} (h:eS x):lW [] x= []:=by
 have hk:=h.kind
 unfold lW lF
 rw [if_neg ah]
 rfl
theorem Ev {n:UInt64} (h:0<wv n):lW [] (bF n)= [wv n]:=by
 have hp:lF (bF n) (mT [])= [wv n]:=if_pos ⟨rfl,h⟩
 unfold lW
 rw [hp]
 have:lG [wv n] 1=1:=by
  show (if ([wv n]:List Int).getD 0 0=0 then _ else _)=_
  rw [if_neg]
  show ¬(wv n=0)
  omega
 unfold pn
 show List.take (lG [wv n] 1) [wv n]=_
 rw [this];rfl
theorem Ag {x:fJ} (h:eS x):eT [x]=0:=by
 have h0:vE [x] 0=0:=tl h (.inl rfl) (by decide) (Nat.zero_le _)
 have hf:ff (vE [x]) 1=0:=by show (if _ then _ else _)=_;rw [if_neg (by show ¬(0:Int)≠0;decide)];exact h0
 have hv:vF [x] 1= []:=KF h
 unfold eT
 show (if ff (vE [x]) 1≠0 then ff (vE [x]) 1 else if 0<1∧(vF [x] 1).length=0 then 0 else 1)=(0:Int)
 rw [if_neg ah,if_pos ⟨by decide,by rw [hv];rfl⟩]
section
variable {n:UInt64} {xs:List fJ} (hx:∀x∈xs,eS x) (hn:wv n=xs.length) (h1:1≤xs.length) (h2:xs.length≤100)
include hx hn h1 h2
theorem Cq:∀j,j≤xs.length->vF (bF n::xs) (j+1)=if j=xs.length then [] else [(xs.length:Int)-j]
 | 0,_=>by
  rw [if_neg ah]
  show lW [] (bF n)=_
  rw [Ev ah,hn];simp
 | j+1,hj=>by
  have ih:=Cq j ah
  rw [if_neg ah] at ih
  have hm:(bF n::xs).getD (j+1) default∈xs:=by
   show xs.getD j default∈xs
   rw [List.getD_eq_getElem?_getD,List.getElem?_eq_getElem ah];exact List.getElem_mem ah
  show lW (vF (bF n::xs) (j+1)) ((bF n::xs).getD (j+1) default)=_
  rw [ih,Hz (hx _ hm)]
  by_cases e:j+1=xs.length
  ·rw [if_pos ah,if_pos e]
  ·rw [if_neg ah,if_neg e]
   congr 1
   omega
theorem MV (j:Nat) (hj:j≤xs.length):vE (bF n::xs) j=0:=by
 cases j with
 | zero =>
  show nf [] 0 (bF n)=0
  unfold nf
  rw [if_neg ah,if_neg (by show ¬fc 0 0 5≠0;decide),if_neg (by show ¬gQ (bF n)=false;have:gQ (bF n)=true:=rfl;rw [this];decide),if_neg (by show ¬1024<0;decide),if_neg (by rintro ⟨-,q⟩;have q:512<wv n:=q;omega)]
  rfl
 | succ j =>
  have hm:(bF n::xs).getD (j+1) default∈xs:=by
   show xs.getD j default∈xs
   rw [List.getD_eq_getElem?_getD,List.getElem?_eq_getElem ah];exact List.getElem_mem ah
  have e:=Cq hx hn h1 h2 j ah
  rw [if_neg ah] at e
  show nf (vF (bF n::xs) (j+1)) (j+1) ((bF n::xs).getD (j+1) default)=0
  rw [e]
  exact tl (hx _ hm) (.inr (by simp)) ah (by simp)
theorem Jo:∀j,j≤xs.length+1->ff (vE (bF n::xs)) j=0
 | 0,_=>rfl
 | j+1,hj=>by
  show (if _ then _ else _)=_
  rw [if_neg (by rw [Jo j ah];decide)]
  exact MV hx hn h1 h2 j ah
theorem El:eT (bF n::xs)=0:=by
 have hf:=Jo hx hn h1 h2 (xs.length+1) (Nat.le_refl _)
 have hv:=Cq hx hn h1 h2 xs.length (Nat.le_refl _)
 rw [if_pos rfl] at hv
 unfold eT
 show (if ff (vE (bF n::xs)) (xs.length+1)≠0 then _ else if 0<xs.length+1∧(vF (bF n::xs) (xs.length+1)).length=0 then 0 else 1)=(0:Int)
 rw [if_neg ah,if_pos ⟨ah,by rw [hv];rfl⟩]
end
theorem po {xs:List fJ} (hx:∀x∈xs,eS x) (h1:1≤xs.length) (h2:xs.length≤20):Kb (xs.map fun x=>[x])∧ff (oL (xs.map fun x=>[x])) (xs.map fun x=>[x]).length=0∧eT (pN (xs.map fun x=>[x]))=0∧pN (xs.map fun x=>[x])=bF (u64 xs.length)::xs:=by
 have tp:(xs.map fun x=>[x]).flatten=xs:=by
  clear hx h1 h2
  induction xs with
  | nil=>rfl
  | cons x l ih=>rw [List.map_cons,List.flatten_cons,ih];rfl
 have ha:pN (xs.map fun x=>[x])=bF (u64 xs.length)::xs:=by unfold pN;rw [tp,List.length_map]
 have rB:∀v∈xs.map fun x=>[x],∃x∈xs,v= [x]:=fun v hv=>by
  obtain ⟨x,hm,e⟩:=List.mem_map.1 hv
  exact ⟨x,hm,e.symm⟩
 refine ⟨⟨by rw [List.length_map];exact h2,fun v hv=>?_,fun v hv x OJ=>?_,fun v hv x OJ=>?_⟩,?_,?_,ha⟩
 ·obtain ⟨x,-,rfl⟩:=rB v hv;simp
 ·obtain ⟨y,hy,rfl⟩:=rB v hv
  have:=List.mem_singleton.1 OJ
  subst this
  rcases (hx _ hy).kind with q|q|q
  ·exact .inl q
  ·exact .inr (.inl q)
  ·exact .inr (.inr (.inl q))
 ·obtain ⟨y,hy,rfl⟩:=rB v hv
  have:=List.mem_singleton.1 OJ
  subst this
  have:=(hx _ hy).cI
  omega
 ·have:∀j,j≤(xs.map fun x=>[x]).length->ff (oL (xs.map fun x=>[x])) j=0:=by
   intro j
   induction j with
   | zero=>intro _;rfl
   | succ j ih =>
    intro hj
    show (if _ then _ else _)=_
    rw [if_neg (by rw [ih ah];decide)]
    have yC:j<xs.length:=by rw [List.length_map] at hj;omega
    show eT ((xs.map fun x=>[x]).getD j default)=0
    rw [List.getD_eq_getElem?_getD,List.getElem?_map,List.getElem?_eq_getElem yC]
    exact Ag (hx _ (List.getElem_mem yC))
  exact this _ (Nat.le_refl _)
 ·rw [ha]
  refine El hx ?_ h1 ah
  rw [qT];omega
def ly:List Int->Nat->List fJ->Option (List Int)
 | fr,_,[]=>some fr
 | fr,c,x::l=>if nf fr c x=0 then ly (lW fr x) (c+1) l else none
theorem ny:∀(l m:List fJ) (fr:List Int) (c:Nat),ly fr c (l++m)=(ly fr c l).bind fun f=>ly f (c+l.length) m
 | [],m,fr,c=>rfl
 | x::l,m,fr,c=>by
  show (if nf fr c x=0 then ly (lW fr x) (c+1) (l++m) else none)=(if nf fr c x=0 then ly (lW fr x) (c+1) l else none).bind _
  split
  ·rw [ny l m,show c+1+l.length=c+(x::l).length by rw [List.length_cons];omega]
  ·rfl
theorem Ey (l:List fJ):∀n,n≤l.length-> ∀fr,ly [] 0 (l.take n)=some fr->vF l n=fr∧ff (vE l) n=0
 | 0,_,fr,h=>⟨by injection h,rfl⟩
 | n+1,hn,fr,h=>by
  have e:l.take (n+1)=l.take n++ [l.getD n default]:=by
   rw [List.take_add_one,List.getD_eq_getElem?_getD,List.getElem?_eq_getElem ah];rfl
  rw [e,ny] at h
  cases h1:ly [] 0 (l.take n) with
  | none=>rw [h1] at h;cases h
  | some g =>
   obtain ⟨i1,i2⟩:=Ey l n ah g h1
   rw [h1] at h
   have h:(if nf g (0+(l.take n).length) (l.getD n default)=0 then some (lW g (l.getD n default)) else none)=some fr:=h
   rw [List.length_take,Nat.min_eq_left ah,Nat.zero_add] at h
   split at h
   ·rename_i q
    injection h with h
    exact ⟨by show lW (vF l n) _=_;rw [i1,h],by show (if _ then _ else _)=_;rw [if_neg ah];show nf (vF l n) n _=0;rw [i1];exact q⟩
   ·cases h
theorem KC {l:List fJ} (h0:0<l.length) (h:ly [] 0 l=some []):eT l=0:=by
 obtain ⟨h1,h2⟩:=Ey l l.length (Nat.le_refl _) [] (by rw [List.take_length];exact h)
 unfold eT
 rw [if_neg ah,if_pos ⟨h0,by rw [h1];rfl⟩]
theorem rI (f:List Int) (k:Int):(f++ [k]).getD ((f++ [k]).length-1) 0=k:=by
 rw [List.length_append,show f.length+ [k].length-1=f.length from Nat.add_sub_cancel ..]
 simp [List.getD_eq_getElem?_getD]
theorem xu (f:List Int) (k:Int):mT (f++ [k])=f++ [k-1]:=by
 unfold mT
 rw [if_neg (by simp),rI,List.length_append,show f.length+ [k].length-1=f.length from Nat.add_sub_cancel ..]
 simp
theorem ri (f:List Int) {k:Int} (h:k≠0):pn (f++ [k])=f++ [k]:=by
 unfold pn
 have:lG (f++ [k]) (f++ [k]).length=(f++ [k]).length:=by
  rw [show (f++ [k]).length=f.length+1 by simp]
  show (if (f++ [k]).getD f.length 0=0 then _ else _)=_
  have:=rI f k
  rw [show (f++ [k]).length-1=f.length by simp] at this
  rw [this,if_neg h]
 rw [this,List.take_length]
theorem A5 (f g:List Int):∀n,n≤f.length->lG (f++g) n=lG f n
 | 0,_=>rfl
 | n+1,h=>by
  show (if (f++g).getD n 0=0 then lG (f++g) n else n+1)=(if f.getD n 0=0 then lG f n else n+1)
  rw [A5 f g n ah,List.getD_eq_getElem?_getD,List.getD_eq_getElem?_getD,List.getElem?_append_left ah]
theorem EG (f:List Int):∀n,lG f n≤n
 | 0=>Nat.le_refl _
 | n+1=>by
  show (if f.getD n 0=0 then lG f n else n+1)≤_
  split
  ·have:=EG f n;omega
  ·exact Nat.le_refl _
theorem FX (f:List Int):pn (f++ [0])=pn f:=by
 unfold pn
 have:lG (f++ [0]) (f++ [0]).length=lG f f.length:=by
  rw [show (f++ [(0:Int)]).length=f.length+1 by simp]
  show (if (f++ [(0:Int)]).getD f.length 0=0 then lG (f++ [0]) f.length else _)=_
  have:=rI f 0
  rw [show (f++ [(0:Int)]).length-1=f.length by simp] at this
  rw [if_pos this,A5 f [0] _ (Nat.le_refl _)]
 rw [this,List.take_append_of_le_length (EG f _)]
theorem Eu {x:fJ} (h:eS x) (f:List Int) (k:Int):lW (f++ [k]) x=if k=1 then pn f else f++ [k-1]:=by
 have hk:=h.kind
 unfold lW lF
 rw [if_neg ah,xu]
 by_cases e:k=1
 ·rw [if_pos e,e];exact FX f
 ·rw [if_neg e];exact ri f ah
theorem MY (f:List Int) (k:Int) {n:UInt64} (h:0<wv n):lW (f++ [k]) (bF n)=f++ [k-1]++ [wv n]:=by
 unfold lW lF
 rw [if_pos ⟨rfl,h⟩,xu]
 have h':wv n≠0:=ah
 exact ri _ h'
theorem Iw {fr:List Int} {c:Nat} {n:UInt64} (h1:c=0∨fr.length≠0) (h2:c<512) (h3:fr.length≤8) (hn:wv n≤512):nf fr c (bF n)=0:=by
 have ha:fc c fr.length 5=0:=by unfold fc;rw [if_neg ah,if_neg ah,if_neg ah]
 unfold nf
 rw [if_neg ah,if_neg (by show ¬fc c fr.length 5≠0;omega),if_neg (by show ¬gQ (bF n)=false;have:gQ (bF n)=true:=rfl;rw [this];decide),if_neg (by show ¬1024<0;decide),if_neg (by rintro ⟨-,q⟩;have q:512<wv n:=q;omega)]
 rfl
theorem ua {f:List Int} (hf:f.length≤6):∀ {xs:List fJ} {k:Int} {c:Nat},(∀x∈xs,eS x)->(xs.length:Int)<k->c+xs.length≤500->ly (f++ [k]) c xs=some (f++ [k-xs.length])
 | [],k,c,_,_,_=>by show some (f++ [k])=some (f++ [k-((0:Nat):Int)]);simp
 | x::xs,k,c,hx,hk,hc=>by
  have OY:c+(xs.length+1)≤500:=hc
  have pB:((xs.length+1:Nat):Int)<k:=hk
  have hl:=hx x (List.mem_cons_self ..)
  show (if nf (f++ [k]) c x=0 then ly (lW (f++ [k]) x) (c+1) xs else none)=_
  rw [if_pos (tl hl (.inr (by simp)) ah (by simp;omega)),Eu hl,if_neg ah,ua hf (fun y hy=>hx y (List.mem_cons_of_mem _ hy)) ah ah]
  show some (f++ [k-1-(xs.length:Int)])=some (f++ [k-((xs.length+1:Nat):Int)])
  rw [show k-((xs.length+1:Nat):Int)=k-1-xs.length by omega]
theorem ub {f:List Int} (hf:f.length≤6):∀ {xs:List fJ} {c:Nat},(∀x∈xs,eS x)->0<xs.length->c+xs.length≤500->ly (f++ [(xs.length:Int)]) c xs=some (pn f)
 | [],_,_,h,_=>by cases h
 | x::xs,c,hx,_,hc=>by
  have OY:c+(xs.length+1)≤500:=hc
  have hl:=hx x (List.mem_cons_self ..)
  show (if nf (f++ [((xs.length+1:Nat):Int)]) c x=0 then ly (lW (f++ [((xs.length+1:Nat):Int)]) x) (c+1) xs else none)=_
  rw [if_pos (tl hl (.inr (by simp)) ah (by simp;omega)),Eu hl]
  by_cases e:xs.length=0
  ·rw [if_pos ah,List.eq_nil_of_length_eq_zero e];rfl
  ·rw [if_neg ah,show ((xs.length+1:Nat):Int)-1=xs.length by omega]
   exact ub hf (fun y hy=>hx y (List.mem_cons_of_mem _ hy)) ah ah
theorem wT {f:List Int} (hf:f.length≤4) {xs:List fJ} {k:Int} {c:Nat} {n:UInt64} (hx:∀x∈xs,eS x) (hn:wv n=xs.length) (h1:0<xs.length) (hk:1<k) (hc:c+xs.length≤400):ly (f++ [k]) c (bF n::xs)=some (f++ [k-1]):=by
 show (if nf (f++ [k]) c (bF n)=0 then ly (lW (f++ [k]) (bF n)) (c+1) xs else none)=_
 rw [if_pos (Iw (.inr (by simp)) ah (by simp;omega) ah),MY _ _ ah,hn,ub (by simp;omega) hx h1 ah,ri _ ah]
theorem HI {n:UInt64} (l:List fJ) (h:0<wv n) (h2:wv n≤512):ly [] 0 (bF n::l)=ly ([]++ [wv n]) 1 l:=by
 show (if nf [] 0 (bF n)=0 then ly (lW [] (bF n)) 1 l else none)=_
 rw [if_pos (Iw (.inl rfl) ah (by simp) h2),Ev h];rfl
def bB (h:Int):Prop:=h<0∨4<h
instance (h:Int):Decidable (bB h):=inferInstanceAs (Decidable (_∨_))
theorem hY (h:Int):bC Tryz.prog 87 [ai h] (ao (decide (bB h))):=by
 by_cases h1:h<0
 ·have e:decide (bB h)=true:=decide_eq_true (.inl h1)
  refine zO Tryz.func87 9<|zP 2 [{},{}] [.aa [2,0] []] (yM 3 (yT (h<0)))<|zR (zV [yB (Value.bool true=Value.bool (decide (bB h))) (by rw [e])])
 ·by_cases h2:h>4
  ·have e:decide (bB h)=true:=decide_eq_true (.inr h2)
   refine zO Tryz.func87 9<|zP 2 [{},yH ([(5,{b:=false})]++yg [3,4])] [.aa [2,0] []] (yM 3 (yF (h<0)))<|zR (zV [yB (Value.bool (decide (h>4))=Value.bool (decide (bB h))) (by rw [e,decide_eq_true h2])])
  ·have e:decide (bB h)=false:=decide_eq_false (by rintro (h|h)<;>omega)
   refine zO Tryz.func87 9<|zP 2 [{},yH ([(5,{b:=false})]++yg [3,4])] [.aa [2,0] []] (yM 3 (yF (h<0)))<|zR (zV [yB (Value.bool (decide (h>4))=Value.bool (decide (bB h))) (by rw [e,decide_eq_false h2])])
theorem cm (h:Int):bC Tryz.prog 91 [ai h] (ao (!decide (bB h))):=by
 by_cases h1:h<0
 ·have e:decide (bB h)=true:=decide_eq_true (.inl h1)
  refine zO Tryz.func91 9<|zP 2 [{},yH ([(5,{b:=false})]++yg [3,4])] [.aa [2,0] []] (yM 3 (yF (h≥0)))<|zR (zV [yB (Value.bool false=Value.bool !decide (bB h)) (by rw [e];rfl)])
 ·by_cases h2:h>4
  ·have e:decide (bB h)=true:=decide_eq_true (.inr h2)
   refine zO Tryz.func91 9<|zP 2 [{},{}] [.aa [2,0] []] (yM 3 (yT (h≥0)))<|zR (zV [yB (Value.bool (decide (h≤4))=Value.bool !decide (bB h)) (by rw [e,decide_eq_false ah];rfl)])
  ·have e:decide (bB h)=false:=decide_eq_false (by rintro (h|h)<;>omega)
   refine zO Tryz.func91 9<|zP 2 [{},{}] [.aa [2,0] []] (yM 3 (yT (h≥0)))<|zR (zV [yB (Value.bool (decide (h≤4))=Value.bool !decide (bB h)) (by rw [e,decide_eq_true ah];rfl)])
def e_ (h:Int):Int:=if bB h then 9 else 0
def dh (h:Int) (r:UInt64):List UInt8:=if bB h then [] else u8 h::words [r]
def gR (lv:Int) (a b:UInt64):UInt64:=hash 3 (words [u64 lv,a,b])
theorem pr (lv:Int) (a b:UInt64):bC Tryz.prog 144 [ai lv,aw a,aw b] (aw (gR lv a b)):=by
 refine zO Tryz.func144 14<|zP 2 [{},yH [(1,yV (aw (u64 lv))),(4,yV (AV.arr (aj [u64 lv,a,b]))),(5,yV (AV.own 1 (ag (words [u64 lv,a,b])))),(6,yV (aw (hash (3:Int) (words [u64 lv,a,b]))))]] [.aa [6,0,1,2] []] [yI (ba lv),yR (aj [u64 lv,a,b]),yI (lR [u64 lv,a,b] (by simp only [List.length_cons,List.length_nil];omega)),yI (aP (words [u64 lv,a,b])),yI (nQ ((3:Int)) (words [u64 lv,a,b]))]<|zR (bL)
theorem lC (lv:Int) (a b:UInt64):bC Tryz.prog 115 [ai lv,aw a,aw b] (aw (gR lv a b)):=by
 refine zO Tryz.func115 14<|zP 2 [{},yH [(1,yV (aw (u64 lv))),(4,yV (AV.arr (aj [u64 lv,a,b]))),(5,yV (AV.own 1 (ag (words [u64 lv,a,b])))),(6,yV (aw (hash (3:Int) (words [u64 lv,a,b]))))]] [.aa [6,0,1,2] []] [yI (ba lv),yR (aj [u64 lv,a,b]),yI (dA [u64 lv,a,b] (by simp only [List.length_cons,List.length_nil];omega)),yI (aP (words [u64 lv,a,b])),yI (iA ((3:Int)) (words [u64 lv,a,b]) (by simp only [List.length_cons,List.length_nil,dW];omega))]<|zR (bL)
def gf (seed:UInt64):Nat->Nat->UInt64
 | 0,i=>combine i (bG seed i 18)
 | lv+1,i=>gR ((lv+1:Nat):Int) (gf seed lv (2*i)) (gf seed lv (2*i+1))
theorem sg (seed:UInt64) (lv:Nat):∀(i:Nat),lv≤4->i<2^(40-lv)->bC Tryz.prog 103 [aw seed,ai lv,ai i] (aw (gf seed lv i)):=by
 induction lv with
 | zero =>
  intro i _ hi
  refine zO Tryz.func103 27<|zq<|zS<|zq<|dm 8 ((↑(0:Nat):Int) == (0:Int)) eg<|zP 1 [yH [(2,yV (aw (combine (↑i:Int) (bG seed (↑i:Int) 18))))]] [.aa [6,8,0,1,2] []] [yI (AQ seed ((↑i:Int)))]<|dd (bL)
 | succ lv ih =>
  intro i hl hi
  have e:2^(40-lv)=2*2^(40-(lv+1)):=by rw [show 40-lv=40-(lv+1)+1 by omega,Nat.pow_succ,Nat.mul_comm]
  have hp:2^(40-(lv+1))≤2^40:=Nat.pow_le_pow_right (by decide) ah
  obtain ⟨j,hj⟩:∃j:Nat,2*i=j:=⟨_,rfl⟩
  obtain ⟨j2,yC⟩:∃j2:Nat,2*i+1=j2:=⟨_,rfl⟩
  have h1:=ih j ah ah
  have h2:=ih j2 ah ah
  clear ih
  generalize 2^(40-lv)=p1 at *
  generalize 2^(40-(lv+1))=p2 at *
  have ew:gf seed (lv+1) i=gR ((lv+1:Nat):Int) (gf seed lv j) (gf seed lv j2):=by rw [←hj,←yC];rfl
  rw [ew]
  generalize gf seed lv j=n1 at *
  generalize gf seed lv j2=n2 at *
  have e1:IntKind.i64.wrap (((lv+1:Nat):Int)-1)=(lv:Int):=by rw [IntKind.wrap_i64];omega
  have e2:IntKind.i64.wrap (2*(i:Int))=(j:Int):=by rw [IntKind.wrap_i64];omega
  have e3:IntKind.i64.wrap ((j:Int)+1)=(j2:Int):=by rw [IntKind.wrap_i64];omega
  refine zO Tryz.func103 27<|zq<|zS<|zq<|bj 8 ((↑(lv+1):Int) == (0:Int)) bD<|aW<|zP 1 [yH [(3,yV (ai ↑lv)),(5,yV (ai ↑j)),(6,yV (aw n1)),(9,yV (ai ↑lv)),(11,yV (ai ↑j)),(12,yV (ai ↑j2)),(13,yV (aw n2)),(14,yV (aw (gR (↑(lv+1):Int) n1 n2)))]] [.aa [6,8,0,1,2] []] [yI (yc e1),yI (yc e2),yI h1,yI (yc e1),yI (yc e2),yI (yc e3),yI h2,yI (lC (↑(lv+1):Int) n1 n2)]<|zR (bL)
end Go.Proofs.YtjgbhhnghedgdaaGreatDoor
