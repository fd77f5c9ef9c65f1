import Derived.Test.YtjgbhhnghedgdaaGreatDoorZsCb2
set_option linter.all false
namespace Go.Proofs.YtjgbhhnghedgdaaGreatDoor
open Go.RowKit
set_option maxRecDepth 100000
set_option maxHeartbeats 4000000
instance:Inhabited fo:=⟨⟨0,0,[]⟩⟩
def vF (l:List fo):Nat->List Int
 | 0=>[]
 | n+1=>lE (vF l n) (l.getD n default)
def vE (l:List fo) (i:Nat):Int:=mH (vF l i) i (l.getD i default)
def eu (l:List fo):Int:=if ff (vE l) l.length≠0 then ff (vE l) l.length else if 0<l.length∧(vF l l.length).length=0 then 0 else 1
theorem JL (fr:List Int) (x:fo):(lE fr x).length≤fr.length+1:=by
 unfold lE oI
 have h:=zt x (mr fr)
 rw [AP] at h
 rw [List.length_take];omega
theorem Gc (l:List fo):∀n,(vF l n).length≤n
 | 0=>Nat.le_refl _
 | n+1=>by
  have:=Gc l n
  have:=JL (vF l n) (l.getD n default)
  show (lE _ _).length≤_
  omega
theorem Ll {l:List fo}:∀ {n:Nat},(∀j,j<n->(l.getD j default).kind=5->wv (l.getD j default).num≤512)-> ∀k∈vF l n,-(n:Int)≤k∧k≤512
 | 0,_,k,hk=>by cases hk
 | n+1,h,k,hk=>by
  have ih:=Ll (l:=l) (n:=n) (fun j hj=>h j ah)
  have h5:=h n ah
  have hk:k∈oI (ld (l.getD n default) (mr (vF l n))):=hk
  have hk:=List.mem_of_mem_take hk
  have hd:∀k∈mr (vF l n),-((n+1:Nat):Int)≤k∧k≤512:=by
   intro k hk
   unfold mr at hk
   split at hk
   ·have:=ih k hk;omega
   ·rename_i h0
    have hm:=ih ((vF l n).getD ((vF l n).length-1) 0) (by rw [List.getD_eq_getElem?_getD,List.getElem?_eq_getElem ah];exact List.getElem_mem ah)
    rcases List.mem_or_eq_of_mem_set hk with q|q
    ·have:=ih k q;omega
    ·omega
  unfold ld at hk
  split at hk
  ·rename_i hx
   rcases List.mem_append.1 hk with q|q
   ·exact hd k q
   ·have e:=List.mem_singleton.1 q
    have:=h5 hx.1
    omega
  ·exact hd k hk
theorem Kj {fr:List Int} {c:Nat} {x:fo} (h:mH fr c x=0) (h5:x.kind=5):wv x.num≤512:=by
 apply Classical.byContradiction
 intro q
 unfold mH at h
 split at h
 ·omega
 ·split at h
  ·rename_i q2;exact q2 h
  ·split at h
   ·omega
   ·split at h
    ·omega
    ·rw [if_pos ⟨h5,ah⟩] at h;omega
theorem uG {f:Nat->Int}:∀ {n:Nat},ff f n=0-> ∀j,j<n->f j=0
 | 0,_,j,hj=>by omega
 | n+1,h,j,hj=>by
  have h1:ff f n=0:=by
   apply Classical.byContradiction
   intro q
   have:ff f (n+1)=ff f n:=by show (if _ then _ else _)=_;rw [if_pos q]
   omega
  have h2:f n=0:=by
   have:ff f (n+1)=f n:=by show (if _ then _ else _)=_;rw [if_neg ah]
   omega
  by_cases e:j=n
  ·subst e;exact h2
  ·exact uG h1 j ah
theorem iA (l:List fo) (hl:l.length≤500) (hk:∀x∈l,ea x.kind) (hd:∀x∈l,x.cC.length≤1000000):bK Tryz.prog 127 [.sl 3 (af aU l)] (ai (eu l)):=by
 have sI:(af aU l).length=l.length*3:=aG (e:=3) (fun _=>rfl) ..
 refine zO Tryz.func127 22<|zQ 2 [{},{}] []<|a7.ow (bN.K7 3 0 99 3 (r:=⟨1,false,true,[.nil,ai 0]⟩) bH rfl rfl bH)<|zS<|zQ 1 [yH [(1,{k:=l.length})]] [yI sI]<|zB 0 (zL (fun (i:Nat)=>(⟨[(8,ai (↑l.length:Int)),(7,AV.sl 3 (af aU l)),(3,AV.addr 3 0),(0,AV.sl 3 (af aU l)),(9,ai i)],[(3,⟨1,false,true,[.ref 99,ai i]⟩),(99,⟨3,true,false,af bw (vF l i)⟩)]⟩:AS)) (fun i=>(i≤l.length∧ff (vE l) i=0)) (fun i=>(l.length-i)) (0) ?_ (zW [.aa [8,7,3,0,9] [3,99]]) ?_)
 ·exact ⟨ah,rfl⟩
 rintro i ⟨hi,h0⟩
 have vo:=Gc l i
 have f_:=uG h0
 have qi:=Ll (l:=l) (n:=i) (fun j hj h5=>Kj (f_ j hj) h5)
 have gv:∀k∈vF l i,-1000≤k∧k≤1000:=fun k hm=>by have:=qi k hm;omega
 have Pt:(vF l i).length≤1000:=ah
 clear f_ qi vo
 refine zq<|zS (zD 10 ((↑i:Int)<(↑l.length:Int)) (fun h=>?_) (fun h=>?_))
 ·have dM:i<l.length:=ah
  have hm:l.getD i default∈l:=by rw [List.getD_eq_getElem?_getD,List.getElem?_eq_getElem dM];exact List.getElem_mem dM
  have Qw:=hk _ hm
  have QB:=hd _ hm
  by_cases e:mH (vF l i) i (l.getD i default)=0
  ·have dI:=EY (vF l i) i (l.getD i default) e Qw Pt gv ah QB
   have k2:ff (vE l) (i+1)=0:=by show (if _ then _ else _)=_;rw [if_neg ah];exact e
   refine a8<|zS<|zB 1<|zP 3 [yH [(0,{k:=i}),(1,yV (AV.agg (aU (l.getD i default))))],yH [(1,{av:=some (ai 0),ln:=[(3,1000000000000),(99,5)],ho:=[(1000000000000,Row.mk 1 false true [AV.ref 5,ai (↑(i+1):Int)]),(5,Row.mk 3 true false (af bw (lE (vF l i) (l.getD i default))))]})],{}] [.aa [16,6,5,10,8,7,3,0,9] [3,99,5]] [yR (↑i:Int),yO (i*3<(af aU l).length),yu aU l i 0 3,yR 3,yL 3 3,yI dI,yB ([AV.ref 99,ai ↑i].length= [AV.ref 5,ai (↑(i+1):Int)].length∧0< [AV.ref 5,ai (↑(i+1):Int)].length) ⟨rfl,Nat.succ_pos _⟩]<|zF 16<|zK<|aM<|ak<|zX (yH [(0,yV (ai ((↑i:Int)+1)))]) [yN ((↑i:Int)+1)] (aI (i+1) ⟨ah,k2⟩ ah (zW [.aa [8,7,3,0,9] [3,99]]))
  ·have dI:=BP (vF l i) i (l.getD i default) e Qw Pt ah QB
   have k2:ff (vE l) (i+1)=vE l i:=by show (if _ then _ else _)=_;rw [if_neg ah]
   have k3:=mn (E:=vE l) e k2 l.length ah
   have k4:eu l=mH (vF l i) i (l.getD i default):=by unfold eu;rw [if_pos (by rw [k3];exact e),k3]
   refine a8<|zS<|zB 1<|zP 3 [yH [(0,{k:=i}),(1,yV (AV.agg (aU (l.getD i default))))],yH [(1,{av:=some (ai (mH (vF l i) i (l.getD i default))),ln:=[(3,1000000000000),(99,5)],ho:=[(1000000000000,Row.mk 1 false true [AV.ref 5,ai ↑i]),(5,Row.mk 3 true false (af bw (vF l i)))]})],{}] [.aa [16,6,5,10,8,7,3,0,9] [3,99,5]] [yR (↑i:Int),yO (i*3<(af aU l).length),yu aU l i 0 3,yR 3,yL 3 3,yI dI,yB ([AV.ref 99,ai ↑i].length= [AV.ref 5,ai ↑i].length∧0< [AV.ref 5,ai ↑i].length) (by simp [e])]<|dQ 16 (mH (vF l i) i (l.getD i default) != (0:Int)) (by simp_all)<|zP 1 [{}] [.aa [2,16,6,5,10,8,7,3,0,9] [3,99,5]] []<|zR<|bl<|aW<|fD<|bl<|aW (zV [yJ (mH (vF l i) i (l.getD i default)) (eu l) (by rw [k4])])
 ·have e:i=l.length:=ah
  subst e
  by_cases N_:0<l.length∧(vF l l.length).length=0
  ·have k4:eu l=0:=by unfold eu;rw [if_neg ah,if_pos N_]
   refine zE 0<|aY<|aN<|bm<|ak<|zS<|zP 1 [yH [(1,{av:=some (ao (decide (0<l.length∧(vF l l.length).length=0))),ln:=[(3,1000000000000),(99,5)],ho:=[(1000000000000,Row.mk 1 false true [AV.ref 5,ai (↑l.length:Int)]),(5,Row.mk 3 true false (af bw (vF l l.length)))]}),(2,yV (ao false))]] [.aa [21,10,8,7,3,0,9] [3,99]] [yI (fQ (vF l l.length) l.length ah),yB ([AV.ref 99,ai (↑l.length:Int)].length= [AV.ref 5,ai (↑l.length:Int)].length∧0< [AV.ref 5,ai (↑l.length:Int)].length) ⟨rfl,Nat.succ_pos _⟩,yB (ao (!decide (0<l.length∧(vF l l.length).length=0))=ao false) (by rw [decide_eq_true N_];rfl)]<|zF 21<|a8<|zq<|zR (zV [yJ 0 (eu l) (by rw [k4])])
  ·have k4:eu l=1:=by unfold eu;rw [if_neg ah,if_neg N_]
   refine zE 0<|aY<|aN<|bm<|ak<|zS<|zP 1 [yH [(1,{av:=some (ao (decide (0<l.length∧(vF l l.length).length=0))),ln:=[(3,1000000000000),(99,5)],ho:=[(1000000000000,Row.mk 1 false true [AV.ref 5,ai (↑l.length:Int)]),(5,Row.mk 3 true false (af bw (vF l l.length)))]}),(2,yV (ao true))]] [.aa [21,10,8,7,3,0,9] [3,99]] [yI (fQ (vF l l.length) l.length ah),yB ([AV.ref 99,ai (↑l.length:Int)].length= [AV.ref 5,ai (↑l.length:Int)].length∧0< [AV.ref 5,ai (↑l.length:Int)].length) ⟨rfl,Nat.succ_pos _⟩,yB (ao (!decide (0<l.length∧(vF l l.length).length=0))=ao true) (by rw [decide_eq_false N_];rfl)]<|zT 21<|zq<|dW (zV [yJ 1 (eu l) (by rw [k4])])
def ox (n:UInt64) (s q:Nat):List UInt8:=(List.range q).map fun j=>(n>>>UInt64.ofNat (8*(s-1-j))).toUInt8
def cz (m:UInt8) (n:UInt64):List UInt8 :=
 if wv n<24 then [m<<<5+n.toUInt8] else if wv n<256 then (m<<<5+24)::ox n 1 1 else if wv n<65536 then (m<<<5+25)::ox n 2 2 else if wv n<4294967296 then (m<<<5+26)::ox n 4 4 else (m<<<5+27)::ox n 8 8
theorem Dd (n:UInt64) (s q:Nat):(ox n s q).length=q:=by simp [ox]
theorem Gh (n:UInt64) (s q:Nat):ox n s (q+1)=ox n s q++ [(n>>>UInt64.ofNat (8*(s-1-q))).toUInt8]:=by
 unfold ox
 rw [List.range_succ,List.map_append];rfl
def JU (o:List UInt8):List (Nat×Row):=[(5,⟨1,true,false,ag o⟩)]
theorem nK (o:List UInt8) (m:UInt8) (n:UInt64) (ho:o.length≤1000000):gb Tryz.prog 164 [.ref 5,ab m,aw n] (JU o) (.own 1 (ag (o++cz m n))) (JU []):=by
 have HP:(ag o).length=o.length:=aA o
 have VU:=Lj n
 refine mN Tryz.func164 58<|zP 3 [{},yH [(1,yV (ab (m<<<(5:UInt8))))],{}] [.aa [8,7,6,0,1,2] [5]] [yI (Lc m ((5:Int)) ah ah),yO ((0:Int)≤5)] ?_
 by_cases h1:wv n<24
 ·have e:cz m n= [m<<<5+n.toUInt8]:=if_pos h1
  refine zS<|zB 0<|zP 1 [{}] [.aa [14,8,7,6,0,1,2] [5]] []<|jO 14 (wv n<24)<|zP 1 [yH [(3,yV (ab n.toUInt8)),(4,yV (ab (m<<<(5:UInt8)+n.toUInt8))),(5,yV (AV.arr (ag [m<<<(5:UInt8)+n.toUInt8]))),(6,yV (AV.arr (ag (o++ [m<<<(5:UInt8)+n.toUInt8]))))]] [.aa [6,14,8,7,1,2] [23]] [yR (ab n.toUInt8),yR (ab (m<<<(5:UInt8)+n.toUInt8)),yR [ab (m<<<(5:UInt8)+n.toUInt8)],yB (ag o++ag [m<<<(5:UInt8)+n.toUInt8]=ag (o++ [m<<<(5:UInt8)+n.toUInt8])) (cQ _ _),yO (((ag o).length+1)*1≤140737488355328)]<|a7.ow (bN.add 5 1 bH)<|zR<|bl<|aW (zG [] [yB (ag (o++ [m<<<(5:UInt8)+n.toUInt8])=ag (o++cz m n)) (by rw [e]),yB ([]=ag []) rfl])
 refine a7.pE (fun (t:UInt8×Nat)=>(⟨[(0,AV.ref 5),(1,ab m),(2,aw n),(7,ab t.1),(8,ai t.2)],[(5,⟨1,true,false,ag o⟩)]⟩:AS)) (fun t=>(cz m n=t.1::ox n t.2 t.2∧1≤t.2∧t.2≤8)) bH ?_ ?_
 ·by_cases h2:wv n<256
  ·have e:cz m n=(m<<<5+24)::ox n 1 1:=by unfold cz;rw [if_neg h1,if_pos h2]
   refine zB 0<|zP 1 [{}] [.aa [14,8,7,6,0,1,2] [5]] []<|dK 14 (wv n<24)<|zP 1 [{}] [.aa [24,14,8,7,6,0,1,2] [5]] []<|jO 24 (wv n<256)<|zX (yH [(1,yV (ab (m<<<(5:UInt8)+24)))]) [yR (ab (m<<<(5:UInt8)+24))]<|aM<|ak (⟨(m<<<5+24,1),(by refine ⟨?_,?_⟩<;>omega),(zW [.aa [0,1,2,7,8] [5]])⟩)
  by_cases h3:wv n<65536
  ·have e:cz m n=(m<<<5+25)::ox n 2 2:=by unfold cz;rw [if_neg h1,if_neg h2,if_pos h3]
   refine zB 0<|zP 1 [{}] [.aa [14,8,7,6,0,1,2] [5]] []<|dK 14 (wv n<24)<|zP 1 [{}] [.aa [24,14,8,7,6,0,1,2] [5]] []<|dK 24 (wv n<256)<|zP 1 [{}] [.aa [29,24,14,8,7,6,0,1,2] [5]] []<|jO 29 (wv n<65536)<|zX (yH [(1,yV (ab (m<<<(5:UInt8)+25)))]) [yR (ab (m<<<(5:UInt8)+25))]<|aM<|ak (⟨(m<<<5+25,2),(by refine ⟨?_,?_⟩<;>omega),(zW [.aa [0,1,2,7,8] [5]])⟩)
  by_cases h4:wv n<4294967296
  ·have e:cz m n=(m<<<5+26)::ox n 4 4:=by unfold cz;rw [if_neg h1,if_neg h2,if_neg h3,if_pos h4]
   refine zB 0<|zP 1 [{}] [.aa [14,8,7,6,0,1,2] [5]] []<|dK 14 (wv n<24)<|zP 1 [{}] [.aa [24,14,8,7,6,0,1,2] [5]] []<|dK 24 (wv n<256)<|zP 1 [{}] [.aa [29,24,14,8,7,6,0,1,2] [5]] []<|dK 29 (wv n<65536)<|zP 1 [{}] [.aa [34,29,24,14,8,7,6,0,1,2] [5]] []<|jO 34 (wv n<4294967296)<|zX (yH [(1,yV (ab (m<<<(5:UInt8)+26)))]) [yR (ab (m<<<(5:UInt8)+26))]<|aM<|ak (⟨(m<<<5+26,4),(by refine ⟨?_,?_⟩<;>omega),(zW [.aa [0,1,2,7,8] [5]])⟩)
  ·have e:cz m n=(m<<<5+27)::ox n 8 8:=by unfold cz;rw [if_neg h1,if_neg h2,if_neg h3,if_neg h4]
   refine zB 0<|zP 1 [{}] [.aa [14,8,7,6,0,1,2] [5]] []<|dK 14 (wv n<24)<|zP 1 [{}] [.aa [24,14,8,7,6,0,1,2] [5]] []<|dK 24 (wv n<256)<|zP 1 [{}] [.aa [29,24,14,8,7,6,0,1,2] [5]] []<|dK 29 (wv n<65536)<|zP 1 [{}] [.aa [34,29,24,14,8,7,6,0,1,2] [5]] []<|dK 34 (wv n<4294967296)<|zX (yH [(1,yV (ab (m<<<(5:UInt8)+27)))]) [yR (ab (m<<<(5:UInt8)+27))]<|aM<|ak (⟨(m<<<5+27,8),(by refine ⟨?_,?_⟩<;>omega),(zW [.aa [0,1,2,7,8] [5]])⟩)
 rintro ⟨f,s⟩ ⟨e,s1,s8⟩
 simp only at e s1 s8
 have BW:=Dd n s
 refine zP 1 [yH [(2,yV (AV.arr (ag [f]))),(3,yV (AV.ref 42))]] [.aa [0,1,2,7,8] [42]] [yR [ab f],yO (((ag o).length+1)*1≤140737488355328)]<|zS<|zP 1 [yH [(1,yV (ai ((↑s:Int)-1)))]] [.aa [9,0,1,2,7,8] [42]] [yN ((↑s:Int)-1)]<|zB 1 (zL (fun (q:Nat)=>(⟨[(1,ab m),(2,aw n),(7,ab f),(8,ai ↑s),(9,ai ((s:Int)-1-q)),(0,AV.ref 42)],[(42,⟨1,true,false,ag (o++f::ox n s q)⟩)]⟩:AS)) (fun q=>(q≤s)) (fun q=>(s-q)) (0) ?_ (e_ [.aa [1,2,7,8,9,0] [42]] [9] [42] [yB (ai ((↑s:Int)-1)=ai ((↑s:Int)-1-(↑(0:Nat):Int))) (congrArg (fun n=>AV.val (.int .i64 n)) ah),yB (ag o++ag [f]=ag (o++f::ox n s 0)) (by rw [cQ];rfl)]) ?_)
 ·omega
 intro q hq
 have UA:=Dd n s q
 have VX:(ag (o++f::ox n s q)).length=o.length+(q+1):=by rw [aA,List.length_append,List.length_cons,UA]
 refine zS<|zP 1 [{}] [.aa [46,1,2,7,8,9,0] [42]] [] (zD 46 ((↑s:Int)-1-(↑q:Int)≥0) (fun h=>?_) (fun h=>?_))
 ·have w:IntKind.i64.wrap (8*((s:Int)-1-q))=((8*(s-1-q):Nat):Int):=by rw [IntKind.wrap_i64];omega
  refine a8<|zS<|zB 2<|zX (yH [(3,yV (ai (↑(8*(s-1-q)):Int))),(4,yV (aw (n>>>UInt64.ofNat (↑(8*(s-1-q)):Int).toNat))),(5,yV (ab ((n>>>UInt64.ofNat (↑(8*(s-1-q)):Int).toNat).toUInt8))),(6,yV (AV.arr (ag [(n>>>UInt64.ofNat (↑(8*(s-1-q)):Int).toNat).toUInt8]))),(7,yV (AV.arr (ag (o++f::ox n s q++ [(n>>>UInt64.ofNat (↑(8*(s-1-q)):Int).toNat).toUInt8]))))]) [yI (yc w),yI (fK n ((↑(8*(s-1-q)):Int)) ah ah),yO ((0:Int)≤(↑(8*(s-1-q)):Int)),yR (ab ((n>>>UInt64.ofNat (↑(8*(s-1-q)):Int).toNat).toUInt8)),yR [ab ((n>>>UInt64.ofNat (↑(8*(s-1-q)):Int).toNat).toUInt8)],yB (ag (o++f::ox n s q)++ag [(n>>>UInt64.ofNat (↑(8*(s-1-q)):Int).toNat).toUInt8]=ag (o++f::ox n s q++ [(n>>>UInt64.ofNat (↑(8*(s-1-q)):Int).toNat).toUInt8])) (cQ _ _),yO (((ag (o++f::ox n s q)).length+1)*1≤140737488355328)]<|aM<|ak<|zX (yH [(1,yV (ai ((↑s:Int)-1-(↑q:Int)-1)))]) [yN ((↑s:Int)-1-(↑q:Int)-1)] (aI (q+1) ah ah (e_ [.vS 56 42,.aa [1,2,7,8,9,0] [42]] [9] [42] [yB (ai ((↑s:Int)-1-(↑q:Int)-1)=ai ((↑s:Int)-1-(↑(q+1):Int))) (congrArg (fun n=>AV.val (.int .i64 n)) ah),yB (ag (o++f::ox n s q++ [(n>>>UInt64.ofNat (↑(8*(s-1-q)):Int).toNat).toUInt8])=ag (o++f::ox n s (q+1))) (congrArg ag (by rw [Gh,Int.toNat_natCast];simp))]))
 ·have e2:q=s:=ah
  subst e2
  refine a7.ow (bN.add 5 1 bH)<|zE 1<|aY<|aN<|bm<|ak<|zq<|zR (zG [] [yB (ag (o++f::ox n q q)=ag (o++cz m n)) (by rw [e]),yB ([]=ag []) rfl])
def i_ (x:fo):List UInt8:=if x.kind=3∨x.kind=4 then cz (u8 (x.kind-1)) (u64 x.cC.length)++x.cC else cz (u8 (x.kind-1)) x.num
theorem lM (m:UInt8) (n:UInt64):(cz m n).length≤9:=by
 unfold cz
 split
 ·simp
 ·split
  ·simp [ox]
  ·split
   ·simp [ox]
   ·split<;>simp [ox]
theorem x_ (o:List UInt8) (x:fo) (hk:ea x.kind) (ho:o.length≤900000) (hd:x.cC.length≤10000):gb Tryz.prog 128 [.ref 5,.agg (aU x)] (JU o) (.own 1 (ag (o++i_ x))) (JU []):=by
 have hz:(⟨x.cC.toArray⟩:ByteArray).size≤maxLen:=by
  show x.cC.toArray.size≤_
  unfold maxLen
  simp;omega
 rcases hk with h|h|h|h
 ·have e:i_ x=cz (u8 (x.kind-1)) x.num:=if_neg ah
  refine mN Tryz.func128 46<|zq<|zS<|zq<|zB 0<|zP 1 [{}] [.aa [7,6,4,3,0,1] [3,5]] []<|bo 7 (x.kind == (7:Int)) bR<|zq<|bo 16 (x.kind == (8:Int)) bR<|zS<|zP 1 [{}] [.aa [21,16,7,6,4,3,0,1] [3,5]] []<|bo 21 (x.kind == (3:Int)) bR<|zX {} []<|ak<|bo 21 (x.kind == (4:Int)) bR<|zK<|aM<|ak<|zP 1 [yH [(3,yV (ai (x.kind-1))),(4,yV (ab (u8 (x.kind-1)))),(7,{av:=some (AV.own 1 (ag (o++cz (u8 (x.kind-1)) x.num))),ln:=[(5,5)],ho:=[(5,Row.mk 1 true false (ag []))]})]] [.aa [4,21,16,7,6,3,1] [45,5,3]] [yN (x.kind-1),yI (iO (x.kind-1)),yI (nK o (u8 (x.kind-1)) x.num ah)]<|zR (zG [] [yB (ag (o++cz (u8 (x.kind-1)) x.num)=ag (o++i_ x)) (by rw [e]),yR (ag [])])
 ·have e:i_ x=cz (u8 (x.kind-1)) (u64 x.cC.length)++x.cC:=if_pos ah
  have hl:=lM (u8 (x.kind-1)) (u64 x.cC.length)
  have hb:(ag (o++cz (u8 (x.kind-1)) (u64 x.cC.length))).length≤900009:=by rw [aA,List.length_append];omega
  have va:(ag x.cC.toArray.toList).length≤10000:=by rw [aA];exact hd
  refine mN Tryz.func128 46<|zq<|zS<|zq<|zB 0<|zP 1 [{}] [.aa [7,6,4,3,0,1] [3,5]] []<|bo 7 (x.kind == (7:Int)) bR<|zq<|bo 16 (x.kind == (8:Int)) bR<|zS<|zP 1 [{}] [.aa [21,16,7,6,4,3,0,1] [3,5]] []<|dQ 21 (x.kind == (3:Int)) fX<|a8<|dQ 21 (x.kind == (3:Int)) fX<|zP 2 [yH [(3,yV (ai (x.kind-1))),(4,yV (ab (u8 (x.kind-1)))),(7,yV (ai (↑x.cC.length:Int))),(8,yV (aw (u64 (↑x.cC.length:Int)))),(9,{av:=some (AV.own 1 (ag (o++cz (u8 (x.kind-1)) (u64 (↑x.cC.length:Int))))),ln:=[(5,5)],ho:=[(5,Row.mk 1 true false (ag []))]})],yH [(3,{av:=some (AV.arr (ag (o++cz (u8 (x.kind-1)) (u64 (↑x.cC.length:Int))++x.cC.toArray.toList))),b:=false})]] [.aa [4,21,16,7,6,3,1] [37,5,3]] [yN (x.kind-1),yI (iO (x.kind-1)),yR (ai (↑x.cC.length:Int)),yI (a6 ((↑x.cC.length:Int))),yI (nK o (u8 (x.kind-1)) (u64 (↑x.cC.length:Int)) ah),yB (ag (o++cz (u8 (x.kind-1)) (u64 (↑x.cC.length:Int)))++ag x.cC.toArray.toList=ag (o++cz (u8 (x.kind-1)) (u64 (↑x.cC.length:Int))++x.cC.toArray.toList)) (cQ _ _),yB (dh (ag x.cC.toArray.toList)) (fF _),yO (((ag (o++cz (u8 (x.kind-1)) (u64 (↑x.cC.length:Int)))).length+(ag x.cC.toArray.toList).length)*1≤140737488355328)]<|zR<|bl<|aW (zG [] [yB (ag (o++cz (u8 (x.kind-1)) (u64 (↑x.cC.length:Int))++x.cC.toArray.toList)=ag (o++i_ x)) (by rw [e];simp),yR (ag [])])
 ·have e:i_ x=cz (u8 (x.kind-1)) (u64 x.cC.length)++x.cC:=if_pos ah
  have hl:=lM (u8 (x.kind-1)) (u64 x.cC.length)
  have hb:(ag (o++cz (u8 (x.kind-1)) (u64 x.cC.length))).length≤900009:=by rw [aA,List.length_append];omega
  have va:(ag x.cC.toArray.toList).length≤10000:=by rw [aA];exact hd
  refine mN Tryz.func128 46<|zq<|zS<|zq<|zB 0<|zP 1 [{}] [.aa [7,6,4,3,0,1] [3,5]] []<|bo 7 (x.kind == (7:Int)) bR<|zq<|bo 16 (x.kind == (8:Int)) bR<|zS<|zP 1 [{}] [.aa [21,16,7,6,4,3,0,1] [3,5]] []<|bo 21 (x.kind == (3:Int)) bR<|zX {} []<|ak<|dQ 21 (x.kind == (4:Int)) fX<|zP 2 [yH [(3,yV (ai (x.kind-1))),(4,yV (ab (u8 (x.kind-1)))),(7,yV (ai (↑x.cC.length:Int))),(8,yV (aw (u64 (↑x.cC.length:Int)))),(9,{av:=some (AV.own 1 (ag (o++cz (u8 (x.kind-1)) (u64 (↑x.cC.length:Int))))),ln:=[(5,5)],ho:=[(5,Row.mk 1 true false (ag []))]})],yH [(3,{av:=some (AV.arr (ag (o++cz (u8 (x.kind-1)) (u64 (↑x.cC.length:Int))++x.cC.toArray.toList))),b:=false})]] [.aa [4,21,16,7,6,3,1] [37,5,3]] [yN (x.kind-1),yI (iO (x.kind-1)),yR (ai (↑x.cC.length:Int)),yI (a6 ((↑x.cC.length:Int))),yI (nK o (u8 (x.kind-1)) (u64 (↑x.cC.length:Int)) ah),yB (ag (o++cz (u8 (x.kind-1)) (u64 (↑x.cC.length:Int)))++ag x.cC.toArray.toList=ag (o++cz (u8 (x.kind-1)) (u64 (↑x.cC.length:Int))++x.cC.toArray.toList)) (cQ _ _),yB (dh (ag x.cC.toArray.toList)) (fF _),yO (((ag (o++cz (u8 (x.kind-1)) (u64 (↑x.cC.length:Int)))).length+(ag x.cC.toArray.toList).length)*1≤140737488355328)]<|zR<|bl<|aW (zG [] [yB (ag (o++cz (u8 (x.kind-1)) (u64 (↑x.cC.length:Int))++x.cC.toArray.toList)=ag (o++i_ x)) (by rw [e];simp),yR (ag [])])
 ·have e:i_ x=cz (u8 (x.kind-1)) x.num:=if_neg ah
  refine mN Tryz.func128 46<|zq<|zS<|zq<|zB 0<|zP 1 [{}] [.aa [7,6,4,3,0,1] [3,5]] []<|bo 7 (x.kind == (7:Int)) bR<|zq<|bo 16 (x.kind == (8:Int)) bR<|zS<|zP 1 [{}] [.aa [21,16,7,6,4,3,0,1] [3,5]] []<|bo 21 (x.kind == (3:Int)) bR<|zX {} []<|ak<|bo 21 (x.kind == (4:Int)) bR<|zK<|aM<|ak<|zP 1 [yH [(3,yV (ai (x.kind-1))),(4,yV (ab (u8 (x.kind-1)))),(7,{av:=some (AV.own 1 (ag (o++cz (u8 (x.kind-1)) x.num))),ln:=[(5,5)],ho:=[(5,Row.mk 1 true false (ag []))]})]] [.aa [4,21,16,7,6,3,1] [45,5,3]] [yN (x.kind-1),yI (iO (x.kind-1)),yI (nK o (u8 (x.kind-1)) x.num ah)]<|zR (zG [] [yB (ag (o++cz (u8 (x.kind-1)) x.num)=ag (o++i_ x)) (by rw [e]),yR (ag [])])
def gF (l:List fo):List UInt8:=l.flatMap i_
def Fz (l:List fo):List UInt8:=if eu l=0 then gF l else []
theorem AL (x:fo):(i_ x).length≤9+x.cC.length:=by
 unfold i_
 split
 ·have:=lM (u8 (x.kind-1)) (u64 x.cC.length)
  rw [List.length_append];omega
 ·have:=lM (u8 (x.kind-1)) x.num
  omega
theorem pU:∀ {l:List fo} {n:Nat},(∀x∈l,x.cC.length≤10000)->l.length≤n->(gF l).length≤10009*n
 | [],n,_,_=>Nat.zero_le _
 | x::l,n,h,hn=>by
  have ih:=pU (l:=l) (n:=n-1) (fun y hy=>h y (by simp [hy])) (by simp at hn;omega)
  have h1:=AL x
  have h2:=h x (by simp)
  simp only [List.length_cons] at hn
  show (i_ x++gF l).length≤_
  rw [List.length_append];omega
theorem CD (l:List fo) (hl:l.length≤50) (hk:∀x∈l,ea x.kind) (hd:∀x∈l,x.cC.length≤10000):bK Tryz.prog 77 [.sl 3 (af aU l)] (.br [.own 1 (ag (Fz l)),ai (eu l)]):=by
 have sI:(af aU l).length=l.length*3:=aG (e:=3) (fun _=>rfl) ..
 have yk:∀x∈l,x.cC.length≤1000000:=fun x hx=>by have:=hd x hx;omega
 by_cases h:eu l=0
 case neg =>
  have e:Fz l= []:=if_neg h
  refine zO Tryz.func77 24<|zq<|zS<|zP 2 [yH [(1,yV (ai (eu l)))],yH [(1,yV (ao true))]] [.aa [11,4,3,2,0] []] [yI (iA l ah hk yk),yB (ao (eu l != (0:Int))=ao true) (by simp [h])]<|zT 11<|zq<|dW (zV [yB (ag (Fz l)= []) (by rw [e];rfl),yR (Value.int .i64 (eu l))])
 have e:Fz l=gF l:=if_pos h
 refine zO Tryz.func77 24<|zq<|zS<|zP 2 [yH [(1,yV (ai (eu l)))],yH [(1,yV (ao false))]] [.aa [11,4,3,2,0] []] [yI (iA l ah hk yk),yB (ao (eu l != (0:Int))=ao false) (by simp [h])]<|zF 11<|a8<|zq<|zS<|zQ 1 [yH [(1,{k:=l.length})]] [yI sI]<|zB 0 (zL (fun (i:Nat)=>(⟨[(14,ai (↑l.length:Int)),(13,AV.sl 3 (af aU l)),(11,ao false),(4,ai (eu l)),(3,ai 0),(2,AV.nil),(0,AV.sl 3 (af aU l)),(15,ai i),(5,AV.ref 21)],[(21,⟨1,true,false,ag (gF (l.take i))⟩)]⟩:AS)) (fun i=>(i≤l.length)) (fun i=>(l.length-i)) (0) ?_ (zW [.nil 5 21 1,.aa [14,13,11,4,3,2,0,15,5] [21]]) ?_)
 ·omega
 intro i hi
 have MU:(gF (l.take i)).length≤10009*i:=pU (fun x hx=>hd x (List.mem_of_mem_take hx)) (by rw [List.length_take];omega)
 refine zq<|zS (zD 16 ((↑i:Int)<(↑l.length:Int)) (fun h2=>?_) (fun h2=>?_))
 ·have dM:i<l.length:=ah
  have hm:l.getD i default∈l:=by rw [List.getD_eq_getElem?_getD,List.getElem?_eq_getElem dM];exact List.getElem_mem dM
  have Qw:=hk _ hm
  have QB:=hd _ hm
  have es:gF (l.take i)++i_ (l.getD i default)=gF (l.take (i+1)):=by
   rw [List.take_succ_eq_append_getElem dM]
   unfold gF
   rw [List.flatMap_append,List.getD_eq_getElem?_getD,List.getElem?_eq_getElem dM]
   simp
  refine a8<|zS<|zB 1<|zP 1 [yH [(0,{k:=i}),(1,yV (AV.agg (aU (l.getD i default))))]] [.aa [7,16,14,13,11,4,3,2,0,15,5] [7,21]] [yR (↑i:Int),yO (i*3<(af aU l).length),yu aU l i 0 3,yR 3,yL 3 3]<|zX (yH [(2,{av:=some (AV.own 1 (ag (gF (List.take i l)++i_ (l.getD i default)))),ln:=[(21,5)],ho:=[(5,Row.mk 1 true false (ag []))]})]) [yI (x_ (gF (List.take i l)) (l.getD i default) Qw ah QB)]<|aM<|ak<|zX (yH [(0,yV (ai ((↑i:Int)+1)))]) [yN ((↑i:Int)+1)] (aI (i+1) (by assumption) ah (e_ [.aa [14,13,11,4,3,2,0,15,5] [21]] [] [21] [yB (ag (gF (List.take i l)++i_ (l.getD i default))=ag (gF (List.take (i+1) l))) (congrArg ag es)]))
 ·have e2:i=l.length:=ah
  subst e2
  refine zE 0<|aY<|aN<|bm<|ak<|zq<|zR (zV [yB (ag (gF (List.take l.length l))=ag (Fz l)) (by rw [e,List.take_length]),yJ 0 (eu l) (by rw [h])])
def cV (l:List fo):List AV:=[.sl 3 (af aU l)]
def aE (n:UInt64):fo:=⟨1,n,[]⟩
def b_ (b:List UInt8):fo:=⟨4,0,b⟩
def dC (b:List UInt8):fo:=⟨3,0,b⟩
def bz (n:UInt64):fo:=⟨5,n,[]⟩
theorem gJ (n:UInt64):bK Tryz.prog 75 [aw n] (.own 3 (af aU [aE n])):=by
 refine zO Tryz.func75 6<|zP 2 [{},{}] [.aa [2,0] [5]] []<|zR (cE)
theorem tl (b:List UInt8):bK Tryz.prog 122 [dw b] (.own 3 (af aU [b_ b])):=by
 refine zO Tryz.func122 6<|zP 2 [{},{}] [.aa [2,0] [5]] []<|zR (cE)
theorem AW (b:List UInt8) (hb:b.length≤1000000):bK Tryz.prog 123 [.sl 1 (ag b)] (.own 3 (af aU [dC b])):=by
 refine zO Tryz.func123 7<|zP 2 [{},yH [(1,yV (dw b))]] [.aa [2,0] [6]] [yR (ag b)]<|zR (cE)
theorem DK {l:List (List fo)} {i:Nat} (h:i<l.length):(af cV l)[i]?=some (.sl 3 (af aU (l.getD i default))):=by
 have:=nP (f:=cV) (e:=1) (l:=l) (k:=i) (j:=0) (fun _=>rfl) h (c:=.sl 3 (af aU (l.getD i default))) rfl
 simpa using this
structure Je (vs:List (List fo)):Prop where
 len:vs.length≤20
 each:∀v∈vs,v.length≤20
 kind:∀v∈vs,∀x∈v,ea x.kind
 cC:∀v∈vs,∀x∈v,x.cC.length≤10000
def n9 (vs:List (List fo)) (i:Nat):Int:=eu (vs.getD i default)
theorem B_ (vs:List (List fo)) (hv:Je vs):bK Tryz.prog 125 [.sl 1 (af cV vs)] (ai (ff (n9 vs) vs.length)):=by
 have TF:=hv.len
 have sI:(af cV vs).length=vs.length:=by rw [aG (e:=1) (fun _=>rfl)];omega
 refine zO Tryz.func125 18<|zq<|zS<|zQ 1 [yH [(1,{k:=(af cV vs).length})]] [yR ((af cV vs).length)]<|zB 0 (zL (fun (i:Nat)=>(⟨[(7,ai (↑(af cV vs).length:Int)),(6,AV.sl 1 (af cV vs)),(0,AV.sl 1 (af cV vs)),(8,ai i)],[]⟩:AS)) (fun i=>(i≤vs.length∧ff (n9 vs) i=0)) (fun i=>(vs.length-i)) (0) ?_ (zW [.aa [7,6,0,8] []]) ?_)
 ·exact ⟨ah,rfl⟩
 rintro i ⟨hi,h0⟩
 refine zq<|zS (zD 9 ((↑i:Int)<(↑(af cV vs).length:Int)) (fun h=>?_) (fun h=>?_))
 ·have dM:i<vs.length:=ah
  have ix:=DK dM
  have hm:vs.getD i default∈vs:=by rw [List.getD_eq_getElem?_getD,List.getElem?_eq_getElem dM];exact List.getElem_mem dM
  have he:=hv.each _ hm
  have hk:=hv.kind _ hm
  have yk:∀x∈vs.getD i default,x.cC.length≤1000000:=fun x hx=>by have:=hv.cC _ hm x hx;omega
  by_cases e:eu (vs.getD i default)=0
  ·have k2:ff (n9 vs) (i+1)=0:=by show (if _ then _ else _)=_;rw [if_neg ah];exact e
   refine a8<|zS<|zB 1<|zP 3 [yH [(0,{k:=i}),(1,yV (AV.sl 3 (af aU (vs.getD i default))))],yH [(1,yV (ai (eu (vs.getD i default))))],{}] [.aa [15,5,4,9,7,6,0,8] []] [yR (↑i:Int),yO (i<(af cV vs).length),yI ix,yI (iA (vs.getD i default) ah hk yk)]<|bo 15 (eu (vs.getD i default) != (0:Int)) (by simp_all)<|zK<|aM<|ak<|zX (yH [(0,yV (ai ((↑i:Int)+1)))]) [yN ((↑i:Int)+1)] (aI (i+1) ⟨ah,k2⟩ ah (zW [.aa [7,6,0,8] []]))
  ·have k2:ff (n9 vs) (i+1)=n9 vs i:=by show (if _ then _ else _)=_;rw [if_neg ah]
   have k3:=mn (E:=n9 vs) e k2 vs.length ah
   refine a8<|zS<|zB 1<|zP 3 [yH [(0,{k:=i}),(1,yV (AV.sl 3 (af aU (vs.getD i default))))],yH [(1,yV (ai (eu (vs.getD i default))))],{}] [.aa [15,5,4,9,7,6,0,8] []] [yR (↑i:Int),yO (i<(af cV vs).length),yI ix,yI (iA (vs.getD i default) ah hk yk)]<|dQ 15 (eu (vs.getD i default) != (0:Int)) (by simp_all)<|zq<|zR<|bl<|aW<|fD<|bl<|aW (zV [yJ (eu (vs.getD i default)) (ff (n9 vs) vs.length) (by rw [k3])])
 ·have e:i=vs.length:=ah
  subst e
  refine zE 0<|aY<|aN<|bm<|ak<|zq<|zR (zV [yJ 0 (ff (n9 vs) vs.length) (by rw [h0])])
theorem AU (l:List fo) (e:eu l=0) (hl:l.length≤500) (hk:∀x∈l,ea x.kind) (yk:∀x∈l,x.cC.length≤1000000):bK Tryz.prog 126 [.sl 3 (af aU l)] (.br [.sl 3 (af aU l),ai 0]):=by
 refine zO Tryz.func126 11<|zq<|zS<|zP 2 [yH [(1,yV (ai (eu l)))],yH [(1,yV (ao false))]] [.aa [8,4,3,2,0] []] [yI (iA l hl hk yk),yB (ao (eu l != (0:Int))=ao false) (by simp [e])]<|zF 8<|a8<|zq<|zR (cE)
def oW (vs:List (List fo)):List fo:=bz (u64 vs.length)::vs.flatten
theorem DL {vs:List (List fo)} (hv:Je vs):∀x∈oW vs,ea x.kind∧x.cC.length≤10000:=by
 intro x hx
 rcases List.mem_cons.1 hx with rfl|hx
 ·exact ⟨.inr (.inr (.inr rfl)),Nat.zero_le _⟩
 ·obtain ⟨v,hm,NS⟩:=List.mem_flatten.1 hx
  exact ⟨hv.kind v hm x NS,hv.cC v hm x NS⟩
theorem xl:∀ {vs:List (List fo)} {n:Nat},(∀v∈vs,v.length≤20)->vs.length≤n->vs.flatten.length≤20*n
 | [],n,_,_=>Nat.zero_le _
 | v::vs,n,h,hn=>by
  simp only [List.length_cons] at hn
  have ih:=xl (vs:=vs) (n:=n-1) (fun y hy=>h y (by simp [hy])) ah
  have h1:=h v (by simp)
  rw [List.flatten_cons,List.length_append];omega
theorem vV (x:fo):dh (aU x):=ij rfl
theorem rn (vs:List (List fo)) (hv:Je vs) (hf:ff (n9 vs) vs.length=0) (e:eu (oW vs)=0):bK Tryz.prog 76 [.sl 1 (af cV vs)] (.br [.sl 3 (af aU (oW vs)),ai 0]):=by
 have TF:=hv.len
 have sI:(af cV vs).length=vs.length:=by rw [aG (e:=1) (fun _=>rfl)];omega
 have vo:=xl (vs:=vs) (n:=20) hv.each TF
 have R4:(oW vs).length≤500:=by show vs.flatten.length+1≤_;omega
 have V6:∀x∈oW vs,ea x.kind:=fun x hx=>(DL hv x hx).1
 have V7:∀x∈oW vs,x.cC.length≤1000000:=fun x hx=>by have:=(DL hv x hx).2;omega
 refine zO Tryz.func76 35<|zq<|zS<|zP 2 [yH [(1,yV (ai (ff (n9 vs) vs.length)))],yH [(1,yV (ao false))]] [.aa [11,4,3,2,0] []] [yI (B_ vs hv),yB (ao (ff (n9 vs) vs.length != (0:Int))=ao false) (by simp [hf])]<|zF 11<|a8<|zP 1 [yH [(1,{k:=(af cV vs).length}),(2,yV (aw (u64 (↑(af cV vs).length:Int))))]] [.aa [5,11,4,3,2,0] [17]] [yR ((af cV vs).length),yI (a6 (↑(af cV vs).length:Int))]<|zS<|zQ 1 [yH [(1,{k:=(af cV vs).length})]] [yR ((af cV vs).length)]<|zB 0 (zL (fun (i:Nat)=>(⟨[(19,ai (↑(af cV vs).length:Int)),(18,AV.sl 1 (af cV vs)),(11,ao false),(4,ai (ff (n9 vs) vs.length)),(3,ai 0),(2,AV.nil),(0,AV.sl 1 (af cV vs)),(20,ai i),(5,AV.ref 29)],[(29,⟨3,true,false,af aU (bz (u64 vs.length)::(vs.take i).flatten)⟩)]⟩:AS)) (fun i=>(i≤vs.length)) (fun i=>(vs.length-i)) (0) ?_ (e_ [.vS 17 29,.loose 29,.aa [19,18,11,4,3,2,0,20,5] [29]] [] [29] [yB ([ai 5,aw (u64 (↑(af cV vs).length:Int)),AV.val (Value.string (ByteArray.mk #[]))]=af aU (bz (u64 (↑vs.length:Int))::(List.take 0 vs).flatten)) (by rw [sI];rfl)]) ?_)
 ·omega
 intro i hi
 have V4:=xl (vs:=vs.take i) (n:=20) (fun v hm=>hv.each v (List.mem_of_mem_take hm)) (by rw [List.length_take];omega)
 have Qv:(af aU (bz (u64 vs.length)::(vs.take i).flatten)).length≤1203:=by rw [aG (e:=3) (fun _=>rfl),List.length_cons];omega
 have Kw:(bz (u64 vs.length)::(vs.take i).flatten).length≤401:=by rw [List.length_cons];omega
 refine zq<|zS (zD 21 ((↑i:Int)<(↑(af cV vs).length:Int)) (fun h=>?_) (fun h=>?_))
 ·have dM:i<vs.length:=ah
  have ix:=DK dM
  have hm:vs.getD i default∈vs:=by rw [List.getD_eq_getElem?_getD,List.getElem?_eq_getElem dM];exact List.getElem_mem dM
  have he:=hv.each _ hm
  have MU:(af aU (vs.getD i default)).length≤60:=by rw [aG (e:=3) (fun _=>rfl)];omega
  have es:af aU (bz (u64 vs.length)::(vs.take i).flatten)++af aU (vs.getD i default)=af aU (bz (u64 vs.length)::(vs.take (i+1)).flatten):=by
   have ef:(vs.take (i+1)).flatten=(vs.take i).flatten++vs.getD i default:=by
    rw [List.take_succ_eq_append_getElem dM,List.flatten_append,List.getD_eq_getElem?_getD,List.getElem?_eq_getElem dM]
    simp
   rw [fO,ef];rfl
  refine a8<|zS<|zB 1<|zP 1 [yH [(0,{k:=i}),(1,yV (AV.sl 3 (af aU (vs.getD i default))))]] [.aa [7,21,19,18,11,4,3,2,0,20,5] [29]] [yR (↑i:Int),yO (i<(af cV vs).length),yI ix]<|zS<|zP 1 [yH [(1,{k:=(bz (u64 (↑vs.length:Int))::(List.take i vs).flatten).length})]] [.aa [26,7,21,19,18,11,4,3,2,0,20,5] [29]] [yB ((af aU (bz (u64 (↑vs.length:Int))::(List.take i vs).flatten)).length=(bz (u64 (↑vs.length:Int))::(List.take i vs).flatten).length*3) (by simp only [aG (f:=aU) (e:=3) (fun _=>rfl)])]<|dK 26 ((↑(bz (u64 (↑vs.length:Int))::(List.take i vs).flatten).length:Int)>512)<|a8<|zX (yH [(2,{b:=false})]) [yB (dh (af aU (vs.getD i default))) (hY (fun x=>vV x) _),yO (((af aU (bz (u64 (↑vs.length:Int))::(List.take i vs).flatten)).length+(af aU (vs.getD i default)).length)*32≤422212465065984)]<|aM<|ak<|zX (yH [(0,yV (ai ((↑i:Int)+1)))]) [yN ((↑i:Int)+1)] (aI (i+1) (by assumption) ah (e_ [.aa [19,18,11,4,3,2,0,20,5] [29]] [] [29] [yI es]))
 ·have e2:i=vs.length:=ah
  subst e2
  rw [List.take_length]
  refine zE 0<|aY<|aN<|bm<|ak<|zP 1 [yH [(1,{av:=some (AV.br [AV.sl 3 (af aU (bz (u64 (↑vs.length:Int))::vs.flatten)),ai 0]),b:=false})]] [.aa [3,2,21,19,18,11,4,0,20,5] []] [yI (AU (bz (u64 (↑vs.length:Int))::vs.flatten) (by assumption) (by assumption) (by assumption) (by assumption))]<|zR (cE)
structure er (x:fo):Prop where
 kind:x.kind=1∨x.kind=3∨x.kind=4
 TT:gK x=true
 cC:x.cC.length≤1024
 acc:qg x=0
theorem er.uint (n:UInt64):er (aE n):=⟨.inl rfl,rfl,Nat.zero_le _,rfl⟩
theorem er.byte {b:List UInt8} (h:b.length≤1024):er (dC b):=⟨.inr (.inl rfl),rfl,h,rfl⟩
theorem er.text {b:List UInt8} (h:b.length≤1024) (hv:Lib.validD b=true):er (b_ b):=⟨.inr (.inr rfl),rfl,h,by
 unfold qg
 rw [if_neg]
 rintro ⟨-,q⟩
 have q:Lib.validD b=false:=q
 rw [hv] at q;cases q⟩
theorem sG {fr:List Int} {c:Nat} {x:fo} (h:er x) (h1:c=0∨fr.length≠0) (h2:c<512) (h3:fr.length≤8):mH fr c x=0:=by
 have hk:=h.kind
 have ha:eU c fr.length x.kind=0:=by unfold eU;rw [if_neg ah,if_neg ah,if_neg ah]
 have hd:=h.cC
 unfold mH
 rw [if_neg ah,if_neg ah,if_neg (by rw [h.TT];decide),if_neg ah,if_neg ah]
 exact h.acc
theorem Gl {x:fo} (h:er x) (k:Int):lE [k] x=if k=1 then [] else [k-1]:=by
 have hk:=h.kind
 have hp:ld x (mr [k])= [k-1]:=by
  unfold ld
  rw [if_neg ah]
  rfl
 unfold lE
 rw [hp]
 unfold oI
 by_cases e:k=1
 ·subst e;rfl
 ·rw [if_neg e]
  have:lf [k-1] 1=1:=by
   show (if ([k-1]:List Int).getD 0 0=0 then _ else _)=_
   rw [if_neg]
   show ¬(k-1=0)
   omega
  show List.take (lf [k-1] 1) [k-1]=_
  rw [this];rfl
theorem JK {x:fo} (h:er x):lE [] x= []:=by
 have hk:=h.kind
 unfold lE ld
 rw [if_neg ah]
 rfl
theorem Dj {n:UInt64} (h:0<wv n):lE [] (bz n)= [wv n]:=by
 have hp:ld (bz n) (mr [])= [wv n]:=if_pos ⟨rfl,h⟩
 unfold lE
 rw [hp]
 have:lf [wv n] 1=1:=by
  show (if ([wv n]:List Int).getD 0 0=0 then _ else _)=_
  rw [if_neg]
  show ¬(wv n=0)
  omega
 unfold oI
 show List.take (lf [wv n] 1) [wv n]=_
 rw [this];rfl
theorem yr {x:fo} (h:er x):eu [x]=0:=by
 have h0:vE [x] 0=0:=sG h (.inl rfl) (by decide) (Nat.zero_le _)
 have hf:ff (vE [x]) 1=0:=by show (if _ then _ else _)=_;rw [if_neg (by show ¬(0:Int)≠0;decide)];exact h0
 have hv:vF [x] 1= []:=JK h
 unfold eu
 show (if ff (vE [x]) 1≠0 then ff (vE [x]) 1 else if 0<1∧(vF [x] 1).length=0 then 0 else 1)=(0:Int)
 rw [if_neg ah,if_pos ⟨by decide,by rw [hv];rfl⟩]
section
variable {n:UInt64} {xs:List fo} (hx:∀x∈xs,er x) (hn:wv n=xs.length) (h1:1≤xs.length) (h2:xs.length≤100)
include hx hn h1 h2
theorem Bf:∀j,j≤xs.length->vF (bz n::xs) (j+1)=if j=xs.length then [] else [(xs.length:Int)-j]
 | 0,_=>by
  rw [if_neg ah]
  show lE [] (bz n)=_
  rw [Dj ah,hn];simp
 | j+1,hj=>by
  have ih:=Bf j ah
  rw [if_neg ah] at ih
  have hm:(bz n::xs).getD (j+1) default∈xs:=by
   show xs.getD j default∈xs
   rw [List.getD_eq_getElem?_getD,List.getElem?_eq_getElem ah];exact List.getElem_mem ah
  show lE (vF (bz n::xs) (j+1)) ((bz n::xs).getD (j+1) default)=_
  rw [ih,Gl (hx _ hm)]
  by_cases e:j+1=xs.length
  ·rw [if_pos ah,if_pos e]
  ·rw [if_neg ah,if_neg e]
   congr 1
   omega
theorem Ma (j:Nat) (hj:j≤xs.length):vE (bz n::xs) j=0:=by
 cases j with
 | zero =>
  show mH [] 0 (bz n)=0
  unfold mH
  rw [if_neg ah,if_neg (by show ¬eU 0 0 5≠0;decide),if_neg (by show ¬gK (bz n)=false;have:gK (bz n)=true:=rfl;rw [this];decide),if_neg (by show ¬1024<0;decide),if_neg (by rintro ⟨-,q⟩;have q:512<wv n:=q;omega)]
  rfl
 | succ j =>
  have hm:(bz n::xs).getD (j+1) default∈xs:=by
   show xs.getD j default∈xs
   rw [List.getD_eq_getElem?_getD,List.getElem?_eq_getElem ah];exact List.getElem_mem ah
  have e:=Bf hx hn h1 h2 j ah
  rw [if_neg ah] at e
  show mH (vF (bz n::xs) (j+1)) (j+1) ((bz n::xs).getD (j+1) default)=0
  rw [e]
  exact sG (hx _ hm) (.inr (by simp)) ah (by simp)
theorem Ii:∀j,j≤xs.length+1->ff (vE (bz n::xs)) j=0
 | 0,_=>rfl
 | j+1,hj=>by
  show (if _ then _ else _)=_
  rw [if_neg (by rw [Ii j ah];decide)]
  exact Ma hx hn h1 h2 j ah
theorem Da:eu (bz n::xs)=0:=by
 have hf:=Ii hx hn h1 h2 (xs.length+1) (Nat.le_refl _)
 have hv:=Bf hx hn h1 h2 xs.length (Nat.le_refl _)
 rw [if_pos rfl] at hv
 unfold eu
 show (if ff (vE (bz n::xs)) (xs.length+1)≠0 then _ else if 0<xs.length+1∧(vF (bz n::xs) (xs.length+1)).length=0 then 0 else 1)=(0:Int)
 rw [if_neg ah,if_pos ⟨ah,by rw [hv];rfl⟩]
end
theorem oJ {xs:List fo} (hx:∀x∈xs,er x) (h1:1≤xs.length) (h2:xs.length≤20):Je (xs.map fun x=>[x])∧ff (n9 (xs.map fun x=>[x])) (xs.map fun x=>[x]).length=0∧eu (oW (xs.map fun x=>[x]))=0∧oW (xs.map fun x=>[x])=bz (u64 xs.length)::xs:=by
 have vo:(xs.map fun x=>[x]).flatten=xs:=by
  clear hx h1 h2
  induction xs with
  | nil=>rfl
  | cons x l ih=>rw [List.map_cons,List.flatten_cons,ih];rfl
 have ha:oW (xs.map fun x=>[x])=bz (u64 xs.length)::xs:=by unfold oW;rw [vo,List.length_map]
 have qO:∀v∈xs.map fun x=>[x],∃x∈xs,v= [x]:=fun v hv=>by
  obtain ⟨x,hm,e⟩:=List.mem_map.1 hv
  exact ⟨x,hm,e.symm⟩
 refine ⟨⟨by rw [List.length_map];exact h2,fun v hv=>?_,fun v hv x NS=>?_,fun v hv x NS=>?_⟩,?_,?_,ha⟩
 ·obtain ⟨x,-,rfl⟩:=qO v hv;simp
 ·obtain ⟨y,hy,rfl⟩:=qO v hv
  have:=List.mem_singleton.1 NS
  subst this
  rcases (hx _ hy).kind with q|q|q
  ·exact .inl q
  ·exact .inr (.inl q)
  ·exact .inr (.inr (.inl q))
 ·obtain ⟨y,hy,rfl⟩:=qO v hv
  have:=List.mem_singleton.1 NS
  subst this
  have:=(hx _ hy).cC
  omega
 ·have:∀j,j≤(xs.map fun x=>[x]).length->ff (n9 (xs.map fun x=>[x])) j=0:=by
   intro j
   induction j with
   | zero=>intro _;rfl
   | succ j ih =>
    intro hj
    show (if _ then _ else _)=_
    rw [if_neg (by rw [ih ah];decide)]
    have sJ:j<xs.length:=by rw [List.length_map] at hj;omega
    show eu ((xs.map fun x=>[x]).getD j default)=0
    rw [List.getD_eq_getElem?_getD,List.getElem?_map,List.getElem?_eq_getElem sJ]
    exact yr (hx _ (List.getElem_mem sJ))
  exact this _ (Nat.le_refl _)
 ·rw [ha]
  refine Da hx ?_ h1 ah
  rw [ql];omega
def k_:List Int->Nat->List fo->Option (List Int)
 | fr,_,[]=>some fr
 | fr,c,x::l=>if mH fr c x=0 then k_ (lE fr x) (c+1) l else none
theorem mU:∀(l m:List fo) (fr:List Int) (c:Nat),k_ fr c (l++m)=(k_ fr c l).bind fun f=>k_ f (c+l.length) m
 | [],m,fr,c=>rfl
 | x::l,m,fr,c=>by
  show (if mH fr c x=0 then k_ (lE fr x) (c+1) (l++m) else none)=(if mH fr c x=0 then k_ (lE fr x) (c+1) l else none).bind _
  split
  ·rw [mU l m,show c+1+l.length=c+(x::l).length by rw [List.length_cons];omega]
  ·rfl
theorem Dn (l:List fo):∀n,n≤l.length-> ∀fr,k_ [] 0 (l.take n)=some fr->vF l n=fr∧ff (vE l) n=0
 | 0,_,fr,h=>⟨by injection h,rfl⟩
 | n+1,hn,fr,h=>by
  have e:l.take (n+1)=l.take n++ [l.getD n default]:=by
   rw [List.take_add_one,List.getD_eq_getElem?_getD,List.getElem?_eq_getElem ah];rfl
  rw [e,mU] at h
  cases h1:k_ [] 0 (l.take n) with
  | none=>rw [h1] at h;cases h
  | some g =>
   obtain ⟨i1,i2⟩:=Dn l n ah g h1
   rw [h1] at h
   have h:(if mH g (0+(l.take n).length) (l.getD n default)=0 then some (lE g (l.getD n default)) else none)=some fr:=h
   rw [List.length_take,Nat.min_eq_left ah,Nat.zero_add] at h
   split at h
   ·rename_i q
    injection h with h
    exact ⟨by show lE (vF l n) _=_;rw [i1,h],by show (if _ then _ else _)=_;rw [if_neg ah];show mH (vF l n) n _=0;rw [i1];exact q⟩
   ·cases h
theorem JH {l:List fo} (h0:0<l.length) (h:k_ [] 0 l=some []):eu l=0:=by
 obtain ⟨h1,h2⟩:=Dn l l.length (Nat.le_refl _) [] (by rw [List.take_length];exact h)
 unfold eu
 rw [if_neg ah,if_pos ⟨h0,by rw [h1];rfl⟩]
theorem qU (f:List Int) (k:Int):(f++ [k]).getD ((f++ [k]).length-1) 0=k:=by
 rw [List.length_append,show f.length+ [k].length-1=f.length from Nat.add_sub_cancel ..]
 simp [List.getD_eq_getElem?_getD]
theorem wC (f:List Int) (k:Int):mr (f++ [k])=f++ [k-1]:=by
 unfold mr
 rw [if_neg (by simp),qU,List.length_append,show f.length+ [k].length-1=f.length from Nat.add_sub_cancel ..]
 simp
theorem qC (f:List Int) {k:Int} (h:k≠0):oI (f++ [k])=f++ [k]:=by
 unfold oI
 have:lf (f++ [k]) (f++ [k]).length=(f++ [k]).length:=by
  rw [show (f++ [k]).length=f.length+1 by simp]
  show (if (f++ [k]).getD f.length 0=0 then _ else _)=_
  have:=qU f k
  rw [show (f++ [k]).length-1=f.length by simp] at this
  rw [this,if_neg h]
 rw [this,List.take_length]
theorem zv (f g:List Int):∀n,n≤f.length->lf (f++g) n=lf f n
 | 0,_=>rfl
 | n+1,h=>by
  show (if (f++g).getD n 0=0 then lf (f++g) n else n+1)=(if f.getD n 0=0 then lf f n else n+1)
  rw [zv f g n ah,List.getD_eq_getElem?_getD,List.getD_eq_getElem?_getD,List.getElem?_append_left ah]
theorem Dw (f:List Int):∀n,lf f n≤n
 | 0=>Nat.le_refl _
 | n+1=>by
  show (if f.getD n 0=0 then lf f n else n+1)≤_
  split
  ·have:=Dw f n;omega
  ·exact Nat.le_refl _
theorem EO (f:List Int):oI (f++ [0])=oI f:=by
 unfold oI
 have:lf (f++ [0]) (f++ [0]).length=lf f f.length:=by
  rw [show (f++ [(0:Int)]).length=f.length+1 by simp]
  show (if (f++ [(0:Int)]).getD f.length 0=0 then lf (f++ [0]) f.length else _)=_
  have:=qU f 0
  rw [show (f++ [(0:Int)]).length-1=f.length by simp] at this
  rw [if_pos this,zv f [0] _ (Nat.le_refl _)]
 rw [this,List.take_append_of_le_length (Dw f _)]
theorem Di {x:fo} (h:er x) (f:List Int) (k:Int):lE (f++ [k]) x=if k=1 then oI f else f++ [k-1]:=by
 have hk:=h.kind
 unfold lE ld
 rw [if_neg ah,wC]
 by_cases e:k=1
 ·rw [if_pos e,e];exact EO f
 ·rw [if_neg e];exact qC f ah
theorem Me (f:List Int) (k:Int) {n:UInt64} (h:0<wv n):lE (f++ [k]) (bz n)=f++ [k-1]++ [wv n]:=by
 unfold lE ld
 rw [if_pos ⟨rfl,h⟩,wC]
 have h':wv n≠0:=ah
 exact qC _ h'
theorem Hs {fr:List Int} {c:Nat} {n:UInt64} (h1:c=0∨fr.length≠0) (h2:c<512) (h3:fr.length≤8) (hn:wv n≤512):mH fr c (bz n)=0:=by
 have ha:eU c fr.length 5=0:=by unfold eU;rw [if_neg ah,if_neg ah,if_neg ah]
 unfold mH
 rw [if_neg ah,if_neg (by show ¬eU c fr.length 5≠0;omega),if_neg (by show ¬gK (bz n)=false;have:gK (bz n)=true:=rfl;rw [this];decide),if_neg (by show ¬1024<0;decide),if_neg (by rintro ⟨-,q⟩;have q:512<wv n:=q;omega)]
 rfl
theorem tx {f:List Int} (hf:f.length≤6):∀ {xs:List fo} {k:Int} {c:Nat},(∀x∈xs,er x)->(xs.length:Int)<k->c+xs.length≤500->k_ (f++ [k]) c xs=some (f++ [k-xs.length])
 | [],k,c,_,_,_=>by show some (f++ [k])=some (f++ [k-((0:Nat):Int)]);simp
 | x::xs,k,c,hx,hk,hc=>by
  have Oc:c+(xs.length+1)≤500:=hc
  have xp:((xs.length+1:Nat):Int)<k:=hk
  have hl:=hx x (List.mem_cons_self ..)
  show (if mH (f++ [k]) c x=0 then k_ (lE (f++ [k]) x) (c+1) xs else none)=_
  rw [if_pos (sG hl (.inr (by simp)) ah (by simp;omega)),Di hl,if_neg ah,tx hf (fun y hy=>hx y (List.mem_cons_of_mem _ hy)) ah ah]
  show some (f++ [k-1-(xs.length:Int)])=some (f++ [k-((xs.length+1:Nat):Int)])
  rw [show k-((xs.length+1:Nat):Int)=k-1-xs.length by omega]
theorem tz {f:List Int} (hf:f.length≤6):∀ {xs:List fo} {c:Nat},(∀x∈xs,er x)->0<xs.length->c+xs.length≤500->k_ (f++ [(xs.length:Int)]) c xs=some (oI f)
 | [],_,_,h,_=>by cases h
 | x::xs,c,hx,_,hc=>by
  have Oc:c+(xs.length+1)≤500:=hc
  have hl:=hx x (List.mem_cons_self ..)
  show (if mH (f++ [((xs.length+1:Nat):Int)]) c x=0 then k_ (lE (f++ [((xs.length+1:Nat):Int)]) x) (c+1) xs else none)=_
  rw [if_pos (sG hl (.inr (by simp)) ah (by simp;omega)),Di hl]
  by_cases e:xs.length=0
  ·rw [if_pos ah,List.eq_nil_of_length_eq_zero e];rfl
  ·rw [if_neg ah,show ((xs.length+1:Nat):Int)-1=xs.length by omega]
   exact tz hf (fun y hy=>hx y (List.mem_cons_of_mem _ hy)) ah ah
theorem vO {f:List Int} (hf:f.length≤4) {xs:List fo} {k:Int} {c:Nat} {n:UInt64} (hx:∀x∈xs,er x) (hn:wv n=xs.length) (h1:0<xs.length) (hk:1<k) (hc:c+xs.length≤400):k_ (f++ [k]) c (bz n::xs)=some (f++ [k-1]):=by
 show (if mH (f++ [k]) c (bz n)=0 then k_ (lE (f++ [k]) (bz n)) (c+1) xs else none)=_
 rw [if_pos (Hs (.inr (by simp)) ah (by simp;omega) ah),Me _ _ ah,hn,tz (by simp;omega) hx h1 ah,qC _ ah]
theorem Gx {n:UInt64} (l:List fo) (h:0<wv n) (h2:wv n≤512):k_ [] 0 (bz n::l)=k_ ([]++ [wv n]) 1 l:=by
 show (if mH [] 0 (bz n)=0 then k_ (lE [] (bz n)) 1 l else none)=_
 rw [if_pos (Hs (.inl rfl) ah (by simp) h2),Dj h];rfl
def bQ (h:Int):Prop:=h<0∨4<h
instance (h:Int):Decidable (bQ h):=inferInstanceAs (Decidable (_∨_))
theorem gQ (h:Int):bK Tryz.prog 87 [ai h] (ao (decide (bQ h))):=by
 by_cases h1:h<0
 ·have e:decide (bQ h)=true:=decide_eq_true (.inl h1)
  refine zO Tryz.func87 9<|zP 2 [{},{}] [.aa [2,0] []] (yM 3 (yT (h<0)))<|zR (zV [yB (Value.bool true=Value.bool (decide (bQ h))) (by rw [e])])
 ·by_cases h2:h>4
  ·have e:decide (bQ h)=true:=decide_eq_true (.inr h2)
   refine zO Tryz.func87 9<|zP 2 [{},yH ([(5,{b:=false})]++yg [3,4])] [.aa [2,0] []] (yM 3 (yF (h<0)))<|zR (zV [yB (Value.bool (decide (h>4))=Value.bool (decide (bQ h))) (by rw [e,decide_eq_true h2])])
  ·have e:decide (bQ h)=false:=decide_eq_false (by rintro (h|h)<;>omega)
   refine zO Tryz.func87 9<|zP 2 [{},yH ([(5,{b:=false})]++yg [3,4])] [.aa [2,0] []] (yM 3 (yF (h<0)))<|zR (zV [yB (Value.bool (decide (h>4))=Value.bool (decide (bQ h))) (by rw [e,decide_eq_false h2])])
theorem dO (h:Int):bK Tryz.prog 91 [ai h] (ao (!decide (bQ h))):=by
 by_cases h1:h<0
 ·have e:decide (bQ h)=true:=decide_eq_true (.inl h1)
  refine zO Tryz.func91 9<|zP 2 [{},yH ([(5,{b:=false})]++yg [3,4])] [.aa [2,0] []] (yM 3 (yF (h≥0)))<|zR (zV [yB (Value.bool false=Value.bool !decide (bQ h)) (by rw [e];rfl)])
 ·by_cases h2:h>4
  ·have e:decide (bQ h)=true:=decide_eq_true (.inr h2)
   refine zO Tryz.func91 9<|zP 2 [{},{}] [.aa [2,0] []] (yM 3 (yT (h≥0)))<|zR (zV [yB (Value.bool (decide (h≤4))=Value.bool !decide (bQ h)) (by rw [e,decide_eq_false ah];rfl)])
  ·have e:decide (bQ h)=false:=decide_eq_false (by rintro (h|h)<;>omega)
   refine zO Tryz.func91 9<|zP 2 [{},{}] [.aa [2,0] []] (yM 3 (yT (h≥0)))<|zR (zV [yB (Value.bool (decide (h≤4))=Value.bool !decide (bQ h)) (by rw [e,decide_eq_true ah];rfl)])
def eE (h:Int):Int:=if bQ h then 9 else 0
def cT (h:Int) (r:UInt64):List UInt8:=if bQ h then [] else u8 h::words [r]
def jH (lv:Int) (a b:UInt64):UInt64:=hash 3 (words [u64 lv,a,b])
theorem oK (lv:Int) (a b:UInt64):bK Tryz.prog 144 [ai lv,aw a,aw b] (aw (jH lv a b)):=by
 refine zO Tryz.func144 14<|zP 2 [{},yH [(1,yV (aw (u64 lv))),(4,yV (AV.arr (aj [u64 lv,a,b]))),(5,yV (AV.own 1 (ag (words [u64 lv,a,b])))),(6,yV (aw (hash (3:Int) (words [u64 lv,a,b]))))]] [.aa [6,0,1,2] []] [yI (a6 lv),yR (aj [u64 lv,a,b]),yI (ly [u64 lv,a,b] (by simp only [List.length_cons,List.length_nil];omega)),yI (aV (words [u64 lv,a,b])),yI (np ((3:Int)) (words [u64 lv,a,b]))]<|zR (cE)
theorem vi (lv:Int) (a b:UInt64):bK Tryz.prog 115 [ai lv,aw a,aw b] (aw (jH lv a b)):=by
 refine zO Tryz.func115 14<|zP 2 [{},yH [(1,yV (aw (u64 lv))),(4,yV (AV.arr (aj [u64 lv,a,b]))),(5,yV (AV.own 1 (ag (words [u64 lv,a,b])))),(6,yV (aw (hash (3:Int) (words [u64 lv,a,b]))))]] [.aa [6,0,1,2] []] [yI (a6 lv),yR (aj [u64 lv,a,b]),yI (de [u64 lv,a,b] (by simp only [List.length_cons,List.length_nil];omega)),yI (aV (words [u64 lv,a,b])),yI (ig ((3:Int)) (words [u64 lv,a,b]) (by simp only [List.length_cons,List.length_nil,dA];omega))]<|zR (cE)
def fM (seed:UInt64):Nat->Nat->UInt64
 | 0,i=>combine i (bA seed i 18)
 | lv+1,i=>jH ((lv+1:Nat):Int) (fM seed lv (2*i)) (fM seed lv (2*i+1))
theorem rG (seed:UInt64) (lv:Nat):∀(i:Nat),lv≤4->i<2^(40-lv)->bK Tryz.prog 103 [aw seed,ai lv,ai i] (aw (fM seed lv i)):=by
 induction lv with
 | zero =>
  intro i _ hi
  refine zO Tryz.func103 27<|zq<|zS<|zq<|dQ 8 ((↑(0:Nat):Int) == (0:Int)) fX<|zP 1 [yH [(2,yV (aw (combine (↑i:Int) (bA seed (↑i:Int) 18))))]] [.aa [6,8,0,1,2] []] [yI (zh seed ((↑i:Int)))]<|dW (cE)
 | succ lv ih =>
  intro i hl hi
  have e:2^(40-lv)=2*2^(40-(lv+1)):=by rw [show 40-lv=40-(lv+1)+1 by omega,Nat.pow_succ,Nat.mul_comm]
  have hp:2^(40-(lv+1))≤2^40:=Nat.pow_le_pow_right (by decide) ah
  obtain ⟨j,hj⟩:∃j:Nat,2*i=j:=⟨_,rfl⟩
  obtain ⟨j2,sJ⟩:∃j2:Nat,2*i+1=j2:=⟨_,rfl⟩
  have h1:=ih j ah ah
  have h2:=ih j2 ah ah
  clear ih
  generalize 2^(40-lv)=p1 at *
  generalize 2^(40-(lv+1))=p2 at *
  have ew:fM seed (lv+1) i=jH ((lv+1:Nat):Int) (fM seed lv j) (fM seed lv j2):=by rw [←hj,←sJ];rfl
  rw [ew]
  generalize fM seed lv j=n1 at *
  generalize fM seed lv j2=n2 at *
  have e1:IntKind.i64.wrap (((lv+1:Nat):Int)-1)=(lv:Int):=by rw [IntKind.wrap_i64];omega
  have e2:IntKind.i64.wrap (2*(i:Int))=(j:Int):=by rw [IntKind.wrap_i64];omega
  have e3:IntKind.i64.wrap ((j:Int)+1)=(j2:Int):=by rw [IntKind.wrap_i64];omega
  refine zO Tryz.func103 27<|zq<|zS<|zq<|bo 8 ((↑(lv+1):Int) == (0:Int)) bR<|a8<|zP 1 [yH [(3,yV (ai ↑lv)),(5,yV (ai ↑j)),(6,yV (aw n1)),(9,yV (ai ↑lv)),(11,yV (ai ↑j)),(12,yV (ai ↑j2)),(13,yV (aw n2)),(14,yV (aw (jH (↑(lv+1):Int) n1 n2)))]] [.aa [6,8,0,1,2] []] [yI (yc e1),yI (yc e2),yI h1,yI (yc e1),yI (yc e2),yI (yc e3),yI h2,yI (vi (↑(lv+1):Int) n1 n2)]<|zR (cE)
end Go.Proofs.YtjgbhhnghedgdaaGreatDoor
