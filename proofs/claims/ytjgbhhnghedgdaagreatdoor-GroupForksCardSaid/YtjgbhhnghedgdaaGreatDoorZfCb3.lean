import Derived.Test.YtjgbhhnghedgdaaGreatDoorZfCb2
set_option linter.all false
namespace Go.Proofs.YtjgbhhnghedgdaaGreatDoor
open Go.RowKit
set_option maxRecDepth 100000
set_option maxHeartbeats 4000000
instance:Inhabited fP:=⟨⟨0,0,[]⟩⟩
def vF (l:List fP):Nat->List Int
 | 0=>[]
 | n+1=>nC (vF l n) (l.getD n default)
def vE (l:List fP) (i:Nat):Int:=nE (vF l i) i (l.getD i default)
def fm (l:List fP):Int:=if ff (vE l) l.length≠0 then ff (vE l) l.length else if 0<l.length∧(vF l l.length).length=0 then 0 else 1
theorem Lz (fr:List Int) (x:fP):(nC fr x).length≤fr.length+1:=by
 unfold nC pP
 have h:=Bz x (nc fr)
 rw [CG] at h
 rw [List.length_take];omega
theorem Ia (l:List fP):∀n,(vF l n).length≤n
 | 0=>Nat.le_refl _
 | n+1=>by
  have:=Ia l n
  have:=Lz (vF l n) (l.getD n default)
  show (nC _ _).length≤_
  omega
theorem Na {l:List fP}:∀ {n:Nat},(∀j,j<n->(l.getD j default).kind=5->wv (l.getD j default).num≤512)-> ∀k∈vF l n,-(n:Int)≤k∧k≤512
 | 0,_,k,hk=>by cases hk
 | n+1,h,k,hk=>by
  have ih:=Na (l:=l) (n:=n) (fun j hj=>h j ag)
  have h5:=h n ag
  have hk:k∈pP (lV (l.getD n default) (nc (vF l n))):=hk
  have hk:=List.mem_of_mem_take hk
  have hd:∀k∈nc (vF l n),-((n+1:Nat):Int)≤k∧k≤512:=by
   intro k hk
   unfold nc at hk
   split at hk
   ·have:=ih k hk;omega
   ·rename_i h0
    have hm:=ih ((vF l n).getD ((vF l n).length-1) 0) (by rw [List.getD_eq_getElem?_getD,List.getElem?_eq_getElem ag];exact List.getElem_mem ag)
    rcases List.mem_or_eq_of_mem_set hk with q|q
    ·have:=ih k q;omega
    ·omega
  unfold lV at hk
  split at hk
  ·rename_i hx
   rcases List.mem_append.1 hk with q|q
   ·exact hd k q
   ·have e:=List.mem_singleton.1 q
    have:=h5 hx.1
    omega
  ·exact hd k hk
theorem L_ {fr:List Int} {c:Nat} {x:fP} (h:nE fr c x=0) (h5:x.kind=5):wv x.num≤512:=by
 apply Classical.byContradiction
 intro q
 unfold nE at h
 split at h
 ·omega
 ·split at h
  ·rename_i q2;exact q2 h
  ·split at h
   ·omega
   ·split at h
    ·omega
    ·rw [if_pos ⟨h5,ag⟩] at h;omega
theorem sq {f:Nat->Int}:∀ {n:Nat},ff f n=0-> ∀j,j<n->f j=0
 | 0,_,j,hj=>by omega
 | n+1,h,j,hj=>by
  have h1:ff f n=0:=by
   apply Classical.byContradiction
   intro q
   have:ff f (n+1)=ff f n:=by show (if _ then _ else _)=_;rw [if_pos q]
   omega
  have h2:f n=0:=by
   have:ff f (n+1)=f n:=by show (if _ then _ else _)=_;rw [if_neg ag]
   omega
  by_cases e:j=n
  ·subst e;exact h2
  ·exact sq h1 j ag
theorem iY (l:List fP) (hl:l.length≤500) (hk:∀x∈l,fg x.kind) (hd:∀x∈l,x.cJ.length≤1000000):bA Tryz.prog 127 [.sl 3 (ae bn l)] (ai (fm l)):=by
 have tK:(ae bn l).length=l.length*3:=aA (e:=3) (fun _=>rfl) ..
 refine zO Tryz.func127 22<|zQ 2 [{},{}] []<|bf.pA (bO.MT 3 0 99 3 (r:=⟨1,false,true,[.nil,ai 0]⟩) bC rfl rfl bC)<|zS<|zQ 1 [yH [(1,{k:=l.length})]] [yI tK]<|zB 0 (zL (fun (i:Nat)=>(⟨[(8,ai (↑l.length:Int)),(7,AV.sl 3 (ae bn l)),(3,AV.addr 3 0),(0,AV.sl 3 (ae bn l)),(9,ai i)],[(3,⟨1,false,true,[.ref 99,ai i]⟩),(99,⟨3,true,false,ae cI (vF l i)⟩)]⟩:AS)) (fun i=>(i≤l.length∧ff (vE l) i=0)) (fun i=>(l.length-i)) (0) ?_ (zW [.aa [8,7,3,0,9] [3,99]]) ?_)
 ·exact ⟨ag,rfl⟩
 rintro i ⟨hi,h0⟩
 have vO:=Ia l i
 have gH:=sq h0
 have lH:=Na (l:=l) (n:=i) (fun j hj h5=>L_ (gH j hj) h5)
 have gZ:∀k∈vF l i,-1000≤k∧k≤1000:=fun k hm=>by have:=lH k hm;omega
 have Rr:(vF l i).length≤1000:=ag
 clear gH lH vO
 refine zq<|zS (zD 10 ((↑i:Int)<(↑l.length:Int)) (fun h=>?_) (fun h=>?_))
 ·have dc:i<l.length:=ag
  have hm:l.getD i default∈l:=by rw [List.getD_eq_getElem?_getD,List.getElem?_eq_getElem dc];exact List.getElem_mem dc
  have Rm:=hk _ hm
  have Rv:=hd _ hm
  by_cases e:nE (vF l i) i (l.getD i default)=0
  ·have dC:=G0 (vF l i) i (l.getD i default) e Rm Rr gZ ag Rv
   have k2:ff (vE l) (i+1)=0:=by show (if _ then _ else _)=_;rw [if_neg ag];exact e
   refine a6<|zS<|zB 1<|zP 3 [yH [(0,{k:=i}),(1,yV (AV.agg (bn (l.getD i default))))],yH [(1,yE [(3,1000000000000),(99,5)] dC)],{}] [.aa [16,6,5,10,8,7,3,0,9] [3,99,5]] [yR (↑i:Int),yO (i*3<(ae bn l).length),yu bn l i 0 3,yR 3,yL 3 3,yI dC,yB ([AV.ref 99,ai ↑i].length= [AV.ref 5,ai (↑(i+1):Int)].length∧0< [AV.ref 5,ai (↑(i+1):Int)].length) ⟨rfl,Nat.succ_pos _⟩]<|zF 16<|zK<|aK<|al<|zX (yH [(0,yV (ai ((↑i:Int)+1)))]) [yN ((↑i:Int)+1)] (aF (i+1) ⟨ag,k2⟩ ag (zW [.aa [8,7,3,0,9] [3,99]]))
  ·have dC:=DI (vF l i) i (l.getD i default) e Rm Rr ag Rv
   have k2:ff (vE l) (i+1)=vE l i:=by show (if _ then _ else _)=_;rw [if_neg ag]
   have k3:=kz (E:=vE l) e k2 l.length ag
   have k4:fm l=nE (vF l i) i (l.getD i default):=by unfold fm;rw [if_pos (by rw [k3];exact e),k3]
   refine a6<|zS<|zB 1<|zP 3 [yH [(0,{k:=i}),(1,yV (AV.agg (bn (l.getD i default))))],yH [(1,yE [(3,1000000000000),(99,5)] dC)],{}] [.aa [16,6,5,10,8,7,3,0,9] [3,99,5]] [yR (↑i:Int),yO (i*3<(ae bn l).length),yu bn l i 0 3,yR 3,yL 3 3,yI dC,yB ([AV.ref 99,ai ↑i].length= [AV.ref 5,ai ↑i].length∧0< [AV.ref 5,ai ↑i].length) (by simp [e])]<|du 16 (nE (vF l i) i (l.getD i default) != (0:Int)) (by simp_all)<|zP 1 [{}] [.aa [2,16,6,5,10,8,7,3,0,9] [3,99,5]] []<|zR<|ba<|aI<|dh<|ba<|aI (zV [yJ (nE (vF l i) i (l.getD i default)) (fm l) (by rw [k4])])
 ·have e:i=l.length:=ag
  subst e
  by_cases Qa:0<l.length∧(vF l l.length).length=0
  ·have k4:fm l=0:=by unfold fm;rw [if_neg ag,if_pos Qa]
   refine zE 0<|a7<|aP<|bp<|al<|zS<|zP 1 [yH [(1,yE [(3,1000000000000),(99,5)] (cM (vF l l.length) (l.length) ag)),(2,yV (ao false))]] [.aa [21,10,8,7,3,0,9] [3,99]] [yI (cM (vF l l.length) l.length ag),yB ([AV.ref 99,ai (↑l.length:Int)].length= [AV.ref 5,ai (↑l.length:Int)].length∧0< [AV.ref 5,ai (↑l.length:Int)].length) ⟨rfl,Nat.succ_pos _⟩,yB (ao (!decide (0<l.length∧(vF l l.length).length=0))=ao false) (by rw [decide_eq_true Qa];rfl)]<|zF 21<|a6<|zq<|zR (zV [yJ 0 (fm l) (by rw [k4])])
  ·have k4:fm l=1:=by unfold fm;rw [if_neg ag,if_neg Qa]
   refine zE 0<|a7<|aP<|bp<|al<|zS<|zP 1 [yH [(1,yE [(3,1000000000000),(99,5)] (cM (vF l l.length) (l.length) ag)),(2,yV (ao true))]] [.aa [21,10,8,7,3,0,9] [3,99]] [yI (cM (vF l l.length) l.length ag),yB ([AV.ref 99,ai (↑l.length:Int)].length= [AV.ref 5,ai (↑l.length:Int)].length∧0< [AV.ref 5,ai (↑l.length:Int)].length) ⟨rfl,Nat.succ_pos _⟩,yB (ao (!decide (0<l.length∧(vF l l.length).length=0))=ao true) (by rw [decide_eq_false Qa];rfl)]<|zT 21<|zq<|dk (zV [yJ 1 (fm l) (by rw [k4])])
def nz (n:UInt64) (s q:Nat):List UInt8:=(List.range q).map fun j=>(n>>>UInt64.ofNat (8*(s-1-j))).toUInt8
def bW (m:UInt8) (n:UInt64):List UInt8 :=
 if wv n<24 then [m<<<5+n.toUInt8] else if wv n<256 then (m<<<5+24)::nz n 1 1 else if wv n<65536 then (m<<<5+25)::nz n 2 2 else if wv n<4294967296 then (m<<<5+26)::nz n 4 4 else (m<<<5+27)::nz n 8 8
theorem tW (n:UInt64) (s q:Nat):(nz n s q).length=q:=by simp [nz]
theorem Ii (n:UInt64) (s q:Nat):nz n s (q+1)=nz n s q++ [(n>>>UInt64.ofNat (8*(s-1-q))).toUInt8]:=by
 unfold nz
 rw [List.range_succ,List.map_append];rfl
def LJ (o:List UInt8):List (Nat×Row):=[(5,⟨1,true,false,ah o⟩)]
theorem iR (o:List UInt8) (m:UInt8) (n:UInt64) (ho:o.length≤1000000):gw Tryz.prog 164 [.ref 5,ab m,aw n] (LJ o) (.own 1 (ah (o++bW m n))) (LJ []):=by
 have CW:(ah o).length=o.length:=aB o
 have XK:=M8 n
 refine nw Tryz.func164 58<|zP 3 [{},yH [(1,yV (ab (m<<<(5:UInt8))))],{}] [.aa [8,7,6,0,1,2] [5]] [yI (M0 m ((5:Int)) ag ag),yO ((0:Int)≤5)] ?_
 by_cases h1:wv n<24
 ·have e:bW m n= [m<<<5+n.toUInt8]:=if_pos h1
  refine zS<|zB 0<|zP 1 [{}] [.aa [14,8,7,6,0,1,2] [5]] []<|gX 14 (wv n<24)<|zP 1 [yH [(3,yV (ab n.toUInt8)),(4,yV (ab (m<<<(5:UInt8)+n.toUInt8))),(5,yV (AV.arr (ah [m<<<(5:UInt8)+n.toUInt8]))),(6,yV (AV.arr (ah (o++ [m<<<(5:UInt8)+n.toUInt8]))))]] [.aa [6,14,8,7,1,2] [23]] [yR (ab n.toUInt8),yR (ab (m<<<(5:UInt8)+n.toUInt8)),yR [ab (m<<<(5:UInt8)+n.toUInt8)],yB (ah o++ah [m<<<(5:UInt8)+n.toUInt8]=ah (o++ [m<<<(5:UInt8)+n.toUInt8])) (da _ _),yO (((ah o).length+1)*1≤140737488355328)]<|bf.pA (bO.add 5 1 bC)<|zR<|ba<|aI (zG [] [yB (ah (o++ [m<<<(5:UInt8)+n.toUInt8])=ah (o++bW m n)) (by rw [e]),yB ([]=ah []) rfl])
 refine bf.pr (fun (t:UInt8×Nat)=>(⟨[(0,AV.ref 5),(1,ab m),(2,aw n),(7,ab t.1),(8,ai t.2)],[(5,⟨1,true,false,ah o⟩)]⟩:AS)) (fun t=>(bW m n=t.1::nz n t.2 t.2∧1≤t.2∧t.2≤8)) bC ?_ ?_
 ·by_cases h2:wv n<256
  ·have e:bW m n=(m<<<5+24)::nz n 1 1:=by unfold bW;rw [if_neg h1,if_pos h2]
   refine zB 0<|zP 1 [{}] [.aa [14,8,7,6,0,1,2] [5]] []<|dm 14 (wv n<24)<|zP 1 [{}] [.aa [24,14,8,7,6,0,1,2] [5]] []<|gX 24 (wv n<256)<|zX (yH [(1,yV (ab (m<<<(5:UInt8)+24)))]) [yR (ab (m<<<(5:UInt8)+24))]<|aK<|al (⟨(m<<<5+24,1),(by refine ⟨?_,?_⟩<;>omega),(zW [.aa [0,1,2,7,8] [5]])⟩)
  by_cases h3:wv n<65536
  ·have e:bW m n=(m<<<5+25)::nz n 2 2:=by unfold bW;rw [if_neg h1,if_neg h2,if_pos h3]
   refine zB 0<|zP 1 [{}] [.aa [14,8,7,6,0,1,2] [5]] []<|dm 14 (wv n<24)<|zP 1 [{}] [.aa [24,14,8,7,6,0,1,2] [5]] []<|dm 24 (wv n<256)<|zP 1 [{}] [.aa [29,24,14,8,7,6,0,1,2] [5]] []<|gX 29 (wv n<65536)<|zX (yH [(1,yV (ab (m<<<(5:UInt8)+25)))]) [yR (ab (m<<<(5:UInt8)+25))]<|aK<|al (⟨(m<<<5+25,2),(by refine ⟨?_,?_⟩<;>omega),(zW [.aa [0,1,2,7,8] [5]])⟩)
  by_cases h4:wv n<4294967296
  ·have e:bW m n=(m<<<5+26)::nz n 4 4:=by unfold bW;rw [if_neg h1,if_neg h2,if_neg h3,if_pos h4]
   refine zB 0<|zP 1 [{}] [.aa [14,8,7,6,0,1,2] [5]] []<|dm 14 (wv n<24)<|zP 1 [{}] [.aa [24,14,8,7,6,0,1,2] [5]] []<|dm 24 (wv n<256)<|zP 1 [{}] [.aa [29,24,14,8,7,6,0,1,2] [5]] []<|dm 29 (wv n<65536)<|zP 1 [{}] [.aa [34,29,24,14,8,7,6,0,1,2] [5]] []<|gX 34 (wv n<4294967296)<|zX (yH [(1,yV (ab (m<<<(5:UInt8)+26)))]) [yR (ab (m<<<(5:UInt8)+26))]<|aK<|al (⟨(m<<<5+26,4),(by refine ⟨?_,?_⟩<;>omega),(zW [.aa [0,1,2,7,8] [5]])⟩)
  ·have e:bW m n=(m<<<5+27)::nz n 8 8:=by unfold bW;rw [if_neg h1,if_neg h2,if_neg h3,if_neg h4]
   refine zB 0<|zP 1 [{}] [.aa [14,8,7,6,0,1,2] [5]] []<|dm 14 (wv n<24)<|zP 1 [{}] [.aa [24,14,8,7,6,0,1,2] [5]] []<|dm 24 (wv n<256)<|zP 1 [{}] [.aa [29,24,14,8,7,6,0,1,2] [5]] []<|dm 29 (wv n<65536)<|zP 1 [{}] [.aa [34,29,24,14,8,7,6,0,1,2] [5]] []<|dm 34 (wv n<4294967296)<|zX (yH [(1,yV (ab (m<<<(5:UInt8)+27)))]) [yR (ab (m<<<(5:UInt8)+27))]<|aK<|al (⟨(m<<<5+27,8),(by refine ⟨?_,?_⟩<;>omega),(zW [.aa [0,1,2,7,8] [5]])⟩)
 rintro ⟨f,s⟩ ⟨e,s1,s8⟩
 simp only at e s1 s8
 have B0:=tW n s
 refine zP 1 [yH [(2,yV (AV.arr (ah [f]))),(3,yV (AV.ref 42))]] [.aa [0,1,2,7,8] [42]] [yR [ab f],yO (((ah o).length+1)*1≤140737488355328)]<|zS<|zP 1 [yH [(1,yV (ai ((↑s:Int)-1)))]] [.aa [9,0,1,2,7,8] [42]] [yN ((↑s:Int)-1)]<|zB 1 (zL (fun (q:Nat)=>(⟨[(1,ab m),(2,aw n),(7,ab f),(8,ai ↑s),(9,ai ((s:Int)-1-q)),(0,AV.ref 42)],[(42,⟨1,true,false,ah (o++f::nz n s q)⟩)]⟩:AS)) (fun q=>(q≤s)) (fun q=>(s-q)) (0) ?_ (eX [.aa [1,2,7,8,9,0] [42]] [9] [42] [yB (ai ((↑s:Int)-1)=ai ((↑s:Int)-1-(↑(0:Nat):Int))) (congrArg (fun n=>AV.val (.int .i64 n)) ag),yB (ah o++ah [f]=ah (o++f::nz n s 0)) (by rw [da];rfl)]) ?_)
 ·omega
 intro q hq
 have Wr:=tW n s q
 have XN:(ah (o++f::nz n s q)).length=o.length+(q+1):=by rw [aB,List.length_append,List.length_cons,Wr]
 refine zS<|zP 1 [{}] [.aa [46,1,2,7,8,9,0] [42]] [] (zD 46 ((↑s:Int)-1-(↑q:Int)≥0) (fun h=>?_) (fun h=>?_))
 ·have w:IntKind.i64.wrap (8*((s:Int)-1-q))=((8*(s-1-q):Nat):Int):=by rw [IntKind.wrap_i64];omega
  refine a6<|zS<|zB 2<|zX (yH [(3,yV (ai (↑(8*(s-1-q)):Int))),(4,yV (aw (n>>>UInt64.ofNat (↑(8*(s-1-q)):Int).toNat))),(5,yV (ab ((n>>>UInt64.ofNat (↑(8*(s-1-q)):Int).toNat).toUInt8))),(6,yV (AV.arr (ah [(n>>>UInt64.ofNat (↑(8*(s-1-q)):Int).toNat).toUInt8]))),(7,yV (AV.arr (ah (o++f::nz n s q++ [(n>>>UInt64.ofNat (↑(8*(s-1-q)):Int).toNat).toUInt8]))))]) [yI (yc w),yI (fE n ((↑(8*(s-1-q)):Int)) ag ag),yO ((0:Int)≤(↑(8*(s-1-q)):Int)),yR (ab ((n>>>UInt64.ofNat (↑(8*(s-1-q)):Int).toNat).toUInt8)),yR [ab ((n>>>UInt64.ofNat (↑(8*(s-1-q)):Int).toNat).toUInt8)],yB (ah (o++f::nz n s q)++ah [(n>>>UInt64.ofNat (↑(8*(s-1-q)):Int).toNat).toUInt8]=ah (o++f::nz n s q++ [(n>>>UInt64.ofNat (↑(8*(s-1-q)):Int).toNat).toUInt8])) (da _ _),yO (((ah (o++f::nz n s q)).length+1)*1≤140737488355328)]<|aK<|al<|zX (yH [(1,yV (ai ((↑s:Int)-1-(↑q:Int)-1)))]) [yN ((↑s:Int)-1-(↑q:Int)-1)] (aF (q+1) ag ag (eX [.wU 56 42,.aa [1,2,7,8,9,0] [42]] [9] [42] [yB (ai ((↑s:Int)-1-(↑q:Int)-1)=ai ((↑s:Int)-1-(↑(q+1):Int))) (congrArg (fun n=>AV.val (.int .i64 n)) ag),yB (ah (o++f::nz n s q++ [(n>>>UInt64.ofNat (↑(8*(s-1-q)):Int).toNat).toUInt8])=ah (o++f::nz n s (q+1))) (congrArg ah (by rw [Ii,Int.toNat_natCast];simp))]))
 ·have e2:q=s:=ag
  subst e2
  refine bf.pA (bO.add 5 1 bC)<|zE 1<|a7<|aP<|bp<|al<|zq<|zR (zG [] [yB (ah (o++f::nz n q q)=ah (o++bW m n)) (by rw [e]),yB ([]=ah []) rfl])
def gS (x:fP):List UInt8:=if x.kind=3∨x.kind=4 then bW (u8 (x.kind-1)) (u64 x.cJ.length)++x.cJ else bW (u8 (x.kind-1)) x.num
theorem mr (m:UInt8) (n:UInt64):(bW m n).length≤9:=by
 unfold bW
 split
 ·simp
 ·split
  ·simp [nz]
  ·split
   ·simp [nz]
   ·split<;>simp [nz]
theorem rm (o:List UInt8) (x:fP) (hk:fg x.kind) (ho:o.length≤900000) (hd:x.cJ.length≤10000):gw Tryz.prog 128 [.ref 5,.agg (bn x)] (LJ o) (.own 1 (ah (o++gS x))) (LJ []):=by
 have hz:(⟨x.cJ.toArray⟩:ByteArray).size≤maxLen:=by
  show x.cJ.toArray.size≤_
  unfold maxLen
  simp;omega
 rcases hk with h|h|h|h
 ·have e:gS x=bW (u8 (x.kind-1)) x.num:=if_neg ag
  refine nw Tryz.func128 46<|zq<|zS<|zq<|zB 0<|zP 1 [{}] [.aa [7,6,4,3,0,1] [3,5]] []<|bj 7 (x.kind == (7:Int)) bx<|zq<|bj 16 (x.kind == (8:Int)) bx<|zS<|zP 1 [{}] [.aa [21,16,7,6,4,3,0,1] [3,5]] []<|bj 21 (x.kind == (3:Int)) bx<|zX {} []<|al<|bj 21 (x.kind == (4:Int)) bx<|zK<|aK<|al<|zP 1 [yH [(3,yV (ai (x.kind-1))),(4,yV (ab (u8 (x.kind-1)))),(7,yE [(5,5)] (iR (o) (u8 (x.kind-1)) (x.num) ag))]] [.aa [4,21,16,7,6,3,1] [45,5,3]] [yN (x.kind-1),yI (jf (x.kind-1)),yI (iR o (u8 (x.kind-1)) x.num ag)]<|zR (zG [] [yB (ah (o++bW (u8 (x.kind-1)) x.num)=ah (o++gS x)) (by rw [e]),yR (ah [])])
 ·have e:gS x=bW (u8 (x.kind-1)) (u64 x.cJ.length)++x.cJ:=if_pos ag
  have hl:=mr (u8 (x.kind-1)) (u64 x.cJ.length)
  have hb:(ah (o++bW (u8 (x.kind-1)) (u64 x.cJ.length))).length≤900009:=by rw [aB,List.length_append];omega
  have sf:(ah x.cJ.toArray.toList).length≤10000:=by rw [aB];exact hd
  refine nw Tryz.func128 46<|zq<|zS<|zq<|zB 0<|zP 1 [{}] [.aa [7,6,4,3,0,1] [3,5]] []<|bj 7 (x.kind == (7:Int)) bx<|zq<|bj 16 (x.kind == (8:Int)) bx<|zS<|zP 1 [{}] [.aa [21,16,7,6,4,3,0,1] [3,5]] []<|du 21 (x.kind == (3:Int)) fh<|a6<|du 21 (x.kind == (3:Int)) fh<|zP 2 [yH [(3,yV (ai (x.kind-1))),(4,yV (ab (u8 (x.kind-1)))),(7,yV (ai (↑x.cJ.length:Int))),(8,yV (aw (u64 (↑x.cJ.length:Int)))),(9,yE [(5,5)] (iR (o) (u8 (x.kind-1)) (u64 (↑x.cJ.length:Int)) ag))],yH [(3,{av:=some (AV.arr (ah (o++bW (u8 (x.kind-1)) (u64 (↑x.cJ.length:Int))++x.cJ.toArray.toList))),b:=false})]] [.aa [4,21,16,7,6,3,1] [37,5,3]] [yN (x.kind-1),yI (jf (x.kind-1)),yR (ai (↑x.cJ.length:Int)),yI (a8 ((↑x.cJ.length:Int))),yI (iR o (u8 (x.kind-1)) (u64 (↑x.cJ.length:Int)) ag),yB (ah (o++bW (u8 (x.kind-1)) (u64 (↑x.cJ.length:Int)))++ah x.cJ.toArray.toList=ah (o++bW (u8 (x.kind-1)) (u64 (↑x.cJ.length:Int))++x.cJ.toArray.toList)) (da _ _),yB (cC (ah x.cJ.toArray.toList)) (gl _),yO (((ah (o++bW (u8 (x.kind-1)) (u64 (↑x.cJ.length:Int)))).length+(ah x.cJ.toArray.toList).length)*1≤140737488355328)]<|zR<|ba<|aI (zG [] [yB (ah (o++bW (u8 (x.kind-1)) (u64 (↑x.cJ.length:Int))++x.cJ.toArray.toList)=ah (o++gS x)) (by rw [e];simp),yR (ah [])])
 ·have e:gS x=bW (u8 (x.kind-1)) (u64 x.cJ.length)++x.cJ:=if_pos ag
  have hl:=mr (u8 (x.kind-1)) (u64 x.cJ.length)
  have hb:(ah (o++bW (u8 (x.kind-1)) (u64 x.cJ.length))).length≤900009:=by rw [aB,List.length_append];omega
  have sf:(ah x.cJ.toArray.toList).length≤10000:=by rw [aB];exact hd
  refine nw Tryz.func128 46<|zq<|zS<|zq<|zB 0<|zP 1 [{}] [.aa [7,6,4,3,0,1] [3,5]] []<|bj 7 (x.kind == (7:Int)) bx<|zq<|bj 16 (x.kind == (8:Int)) bx<|zS<|zP 1 [{}] [.aa [21,16,7,6,4,3,0,1] [3,5]] []<|bj 21 (x.kind == (3:Int)) bx<|zX {} []<|al<|du 21 (x.kind == (4:Int)) fh<|zP 2 [yH [(3,yV (ai (x.kind-1))),(4,yV (ab (u8 (x.kind-1)))),(7,yV (ai (↑x.cJ.length:Int))),(8,yV (aw (u64 (↑x.cJ.length:Int)))),(9,yE [(5,5)] (iR (o) (u8 (x.kind-1)) (u64 (↑x.cJ.length:Int)) ag))],yH [(3,{av:=some (AV.arr (ah (o++bW (u8 (x.kind-1)) (u64 (↑x.cJ.length:Int))++x.cJ.toArray.toList))),b:=false})]] [.aa [4,21,16,7,6,3,1] [37,5,3]] [yN (x.kind-1),yI (jf (x.kind-1)),yR (ai (↑x.cJ.length:Int)),yI (a8 ((↑x.cJ.length:Int))),yI (iR o (u8 (x.kind-1)) (u64 (↑x.cJ.length:Int)) ag),yB (ah (o++bW (u8 (x.kind-1)) (u64 (↑x.cJ.length:Int)))++ah x.cJ.toArray.toList=ah (o++bW (u8 (x.kind-1)) (u64 (↑x.cJ.length:Int))++x.cJ.toArray.toList)) (da _ _),yB (cC (ah x.cJ.toArray.toList)) (gl _),yO (((ah (o++bW (u8 (x.kind-1)) (u64 (↑x.cJ.length:Int)))).length+(ah x.cJ.toArray.toList).length)*1≤140737488355328)]<|zR<|ba<|aI (zG [] [yB (ah (o++bW (u8 (x.kind-1)) (u64 (↑x.cJ.length:Int))++x.cJ.toArray.toList)=ah (o++gS x)) (by rw [e];simp),yR (ah [])])
 ·have e:gS x=bW (u8 (x.kind-1)) x.num:=if_neg ag
  refine nw Tryz.func128 46<|zq<|zS<|zq<|zB 0<|zP 1 [{}] [.aa [7,6,4,3,0,1] [3,5]] []<|bj 7 (x.kind == (7:Int)) bx<|zq<|bj 16 (x.kind == (8:Int)) bx<|zS<|zP 1 [{}] [.aa [21,16,7,6,4,3,0,1] [3,5]] []<|bj 21 (x.kind == (3:Int)) bx<|zX {} []<|al<|bj 21 (x.kind == (4:Int)) bx<|zK<|aK<|al<|zP 1 [yH [(3,yV (ai (x.kind-1))),(4,yV (ab (u8 (x.kind-1)))),(7,yE [(5,5)] (iR (o) (u8 (x.kind-1)) (x.num) ag))]] [.aa [4,21,16,7,6,3,1] [45,5,3]] [yN (x.kind-1),yI (jf (x.kind-1)),yI (iR o (u8 (x.kind-1)) x.num ag)]<|zR (zG [] [yB (ah (o++bW (u8 (x.kind-1)) x.num)=ah (o++gS x)) (by rw [e]),yR (ah [])])
def g_ (l:List fP):List UInt8:=l.flatMap gS
def HE (l:List fP):List UInt8:=if fm l=0 then g_ l else []
theorem CA (x:fP):(gS x).length≤9+x.cJ.length:=by
 unfold gS
 split
 ·have:=mr (u8 (x.kind-1)) (u64 x.cJ.length)
  rw [List.length_append];omega
 ·have:=mr (u8 (x.kind-1)) x.num
  omega
theorem q6:∀ {l:List fP} {n:Nat},(∀x∈l,x.cJ.length≤10000)->l.length≤n->(g_ l).length≤10009*n
 | [],n,_,_=>Nat.zero_le _
 | x::l,n,h,hn=>by
  have ih:=q6 (l:=l) (n:=n-1) (fun y hy=>h y (by simp [hy])) (by simp at hn;omega)
  have h1:=CA x
  have h2:=h x (by simp)
  simp only [List.length_cons] at hn
  show (gS x++g_ l).length≤_
  rw [List.length_append];omega
theorem Ez (l:List fP) (hl:l.length≤50) (hk:∀x∈l,fg x.kind) (hd:∀x∈l,x.cJ.length≤10000):bA Tryz.prog 77 [.sl 3 (ae bn l)] (.b_ [.own 1 (ah (HE l)),ai (fm l)]):=by
 have tK:(ae bn l).length=l.length*3:=aA (e:=3) (fun _=>rfl) ..
 have AK:∀x∈l,x.cJ.length≤1000000:=fun x hx=>by have:=hd x hx;omega
 by_cases h:fm l=0
 case neg =>
  have e:HE l= []:=if_neg h
  refine zO Tryz.func77 24<|zq<|zS<|zP 2 [yH [(1,yV (ai (fm l)))],yH [(1,yV (ao true))]] [.aa [11,4,3,2,0] []] [yI (iY l ag hk AK),yB (ao (fm l != (0:Int))=ao true) (by simp [h])]<|zT 11<|zq<|dk (zV [yB (ah (HE l)= []) (by rw [e];rfl),yR (Value.int .i64 (fm l))])
 have e:HE l=g_ l:=if_pos h
 refine zO Tryz.func77 24<|zq<|zS<|zP 2 [yH [(1,yV (ai (fm l)))],yH [(1,yV (ao false))]] [.aa [11,4,3,2,0] []] [yI (iY l ag hk AK),yB (ao (fm l != (0:Int))=ao false) (by simp [h])]<|zF 11<|a6<|zq<|zS<|zQ 1 [yH [(1,{k:=l.length})]] [yI tK]<|zB 0 (zL (fun (i:Nat)=>(⟨[(14,ai (↑l.length:Int)),(13,AV.sl 3 (ae bn l)),(11,ao false),(4,ai (fm l)),(3,ai 0),(2,AV.nil),(0,AV.sl 3 (ae bn l)),(15,ai i),(5,AV.ref 21)],[(21,⟨1,true,false,ah (g_ (l.take i))⟩)]⟩:AS)) (fun i=>(i≤l.length)) (fun i=>(l.length-i)) (0) ?_ (zW [.nil 5 21 1,.aa [14,13,11,4,3,2,0,15,5] [21]]) ?_)
 ·omega
 intro i hi
 have OX:(g_ (l.take i)).length≤10009*i:=q6 (fun x hx=>hd x (List.mem_of_mem_take hx)) (by rw [List.length_take];omega)
 refine zq<|zS (zD 16 ((↑i:Int)<(↑l.length:Int)) (fun h2=>?_) (fun h2=>?_))
 ·have dc:i<l.length:=ag
  have hm:l.getD i default∈l:=by rw [List.getD_eq_getElem?_getD,List.getElem?_eq_getElem dc];exact List.getElem_mem dc
  have Rm:=hk _ hm
  have Rv:=hd _ hm
  have es:g_ (l.take i)++gS (l.getD i default)=g_ (l.take (i+1)):=by
   rw [List.take_succ_eq_append_getElem dc]
   unfold g_
   rw [List.flatMap_append,List.getD_eq_getElem?_getD,List.getElem?_eq_getElem dc]
   simp
  refine a6<|zS<|zB 1<|zP 1 [yH [(0,{k:=i}),(1,yV (AV.agg (bn (l.getD i default))))]] [.aa [7,16,14,13,11,4,3,2,0,15,5] [7,21]] [yR (↑i:Int),yO (i*3<(ae bn l).length),yu bn l i 0 3,yR 3,yL 3 3]<|zX (yH [(2,yE [(21,5)] (rm (g_ (List.take i l)) (l.getD i default) Rm ag Rv))]) [yI (rm (g_ (List.take i l)) (l.getD i default) Rm ag Rv)]<|aK<|al<|zX (yH [(0,yV (ai ((↑i:Int)+1)))]) [yN ((↑i:Int)+1)] (aF (i+1) (by assumption) ag (eX [.aa [14,13,11,4,3,2,0,15,5] [21]] [] [21] [yB (ah (g_ (List.take i l)++gS (l.getD i default))=ah (g_ (List.take (i+1) l))) (congrArg ah es)]))
 ·have e2:i=l.length:=ag
  subst e2
  refine zE 0<|a7<|aP<|bp<|al<|zq<|zR (zV [yB (ah (g_ (List.take l.length l))=ah (HE l)) (by rw [e,List.take_length]),yJ 0 (fm l) (by rw [h])])
def dI (l:List fP):List AV:=[.sl 3 (ae bn l)]
def aL (n:UInt64):fP:=⟨1,n,[]⟩
def cL (b:List UInt8):fP:=⟨4,0,b⟩
def fj (b:List UInt8):fP:=⟨3,0,b⟩
def bG (n:UInt64):fP:=⟨5,n,[]⟩
theorem dn (n:UInt64):bA Tryz.prog 75 [aw n] (.own 3 (ae bn [aL n])):=by
 refine zO Tryz.func75 6<|zP 2 [{},{}] [.aa [2,0] [5]] []<|zR (bL)
theorem me (b:List UInt8):bA Tryz.prog 122 [di b] (.own 3 (ae bn [cL b])):=by
 refine zO Tryz.func122 6<|zP 2 [{},{}] [.aa [2,0] [5]] []<|zR (bL)
theorem rk (b:List UInt8) (hb:b.length≤1000000):bA Tryz.prog 123 [.sl 1 (ah b)] (.own 3 (ae bn [fj b])):=by
 refine zO Tryz.func123 7<|zP 2 [{},yH [(1,yV (di b))]] [.aa [2,0] [6]] [yR (ah b)]<|zR (bL)
theorem FI {l:List (List fP)} {i:Nat} (h:i<l.length):(ae dI l)[i]?=some (.sl 3 (ae bn (l.getD i default))):=by
 have:=m_ (f:=dI) (e:=1) (l:=l) (k:=i) (j:=0) (fun _=>rfl) h (c:=.sl 3 (ae bn (l.getD i default))) rfl
 simpa using this
structure K7 (vs:List (List fP)):Prop where
 len:vs.length≤20
 each:∀v∈vs,v.length≤20
 kind:∀v∈vs,∀x∈v,fg x.kind
 cJ:∀v∈vs,∀x∈v,x.cJ.length≤10000
def pX (vs:List (List fP)) (i:Nat):Int:=fm (vs.getD i default)
theorem wg (vs:List (List fP)) (hv:K7 vs):bA Tryz.prog 125 [.sl 1 (ae dI vs)] (ai (ff (pX vs) vs.length)):=by
 have Vz:=hv.len
 have tK:(ae dI vs).length=vs.length:=by rw [aA (e:=1) (fun _=>rfl)];omega
 refine zO Tryz.func125 18<|zq<|zS<|zQ 1 [yH [(1,{k:=(ae dI vs).length})]] [yR ((ae dI vs).length)]<|zB 0 (zL (fun (i:Nat)=>(⟨[(7,ai (↑(ae dI vs).length:Int)),(6,AV.sl 1 (ae dI vs)),(0,AV.sl 1 (ae dI vs)),(8,ai i)],[]⟩:AS)) (fun i=>(i≤vs.length∧ff (pX vs) i=0)) (fun i=>(vs.length-i)) (0) ?_ (zW [.aa [7,6,0,8] []]) ?_)
 ·exact ⟨ag,rfl⟩
 rintro i ⟨hi,h0⟩
 refine zq<|zS (zD 9 ((↑i:Int)<(↑(ae dI vs).length:Int)) (fun h=>?_) (fun h=>?_))
 ·have dc:i<vs.length:=ag
  have ic:=FI dc
  have hm:vs.getD i default∈vs:=by rw [List.getD_eq_getElem?_getD,List.getElem?_eq_getElem dc];exact List.getElem_mem dc
  have he:=hv.each _ hm
  have hk:=hv.kind _ hm
  have AK:∀x∈vs.getD i default,x.cJ.length≤1000000:=fun x hx=>by have:=hv.cJ _ hm x hx;omega
  by_cases e:fm (vs.getD i default)=0
  ·have k2:ff (pX vs) (i+1)=0:=by show (if _ then _ else _)=_;rw [if_neg ag];exact e
   refine a6<|zS<|zB 1<|zP 3 [yH [(0,{k:=i}),(1,yV (AV.sl 3 (ae bn (vs.getD i default))))],yH [(1,yV (ai (fm (vs.getD i default))))],{}] [.aa [15,5,4,9,7,6,0,8] []] [yR (↑i:Int),yO (i<(ae dI vs).length),yI ic,yI (iY (vs.getD i default) ag hk AK)]<|bj 15 (fm (vs.getD i default) != (0:Int)) (by simp_all)<|zK<|aK<|al<|zX (yH [(0,yV (ai ((↑i:Int)+1)))]) [yN ((↑i:Int)+1)] (aF (i+1) ⟨ag,k2⟩ ag (zW [.aa [7,6,0,8] []]))
  ·have k2:ff (pX vs) (i+1)=pX vs i:=by show (if _ then _ else _)=_;rw [if_neg ag]
   have k3:=kz (E:=pX vs) e k2 vs.length ag
   refine a6<|zS<|zB 1<|zP 3 [yH [(0,{k:=i}),(1,yV (AV.sl 3 (ae bn (vs.getD i default))))],yH [(1,yV (ai (fm (vs.getD i default))))],{}] [.aa [15,5,4,9,7,6,0,8] []] [yR (↑i:Int),yO (i<(ae dI vs).length),yI ic,yI (iY (vs.getD i default) ag hk AK)]<|du 15 (fm (vs.getD i default) != (0:Int)) (by simp_all)<|zq<|zR<|ba<|aI<|dh<|ba<|aI (zV [yJ (fm (vs.getD i default)) (ff (pX vs) vs.length) (by rw [k3])])
 ·have e:i=vs.length:=ag
  subst e
  refine zE 0<|a7<|aP<|bp<|al<|zq<|zR (zV [yJ 0 (ff (pX vs) vs.length) (by rw [h0])])
theorem CL (l:List fP) (e:fm l=0) (hl:l.length≤500) (hk:∀x∈l,fg x.kind) (AK:∀x∈l,x.cJ.length≤1000000):bA Tryz.prog 126 [.sl 3 (ae bn l)] (.b_ [.sl 3 (ae bn l),ai 0]):=by
 refine zO Tryz.func126 11<|zq<|zS<|zP 2 [yH [(1,yV (ai (fm l)))],yH [(1,yV (ao false))]] [.aa [8,4,3,2,0] []] [yI (iY l hl hk AK),yB (ao (fm l != (0:Int))=ao false) (by simp [e])]<|zF 8<|a6<|zq<|zR (bL)
def qb (vs:List (List fP)):List fP:=bG (u64 vs.length)::vs.flatten
theorem FJ {vs:List (List fP)} (hv:K7 vs):∀x∈qb vs,fg x.kind∧x.cJ.length≤10000:=by
 intro x hx
 rcases List.mem_cons.1 hx with rfl|hx
 ·exact ⟨.inr (.inr (.inr rfl)),Nat.zero_le _⟩
 ·obtain ⟨v,hm,PU⟩:=List.mem_flatten.1 hx
  exact ⟨hv.kind v hm x PU,hv.cJ v hm x PU⟩
theorem zu:∀ {vs:List (List fP)} {n:Nat},(∀v∈vs,v.length≤20)->vs.length≤n->vs.flatten.length≤20*n
 | [],n,_,_=>Nat.zero_le _
 | v::vs,n,h,hn=>by
  simp only [List.length_cons] at hn
  have ih:=zu (vs:=vs) (n:=n-1) (fun y hy=>h y (by simp [hy])) ag
  have h1:=h v (by simp)
  rw [List.flatten_cons,List.length_append];omega
theorem xM (x:fP):cC (bn x):=dQ rfl
theorem sL (vs:List (List fP)) (hv:K7 vs) (hf:ff (pX vs) vs.length=0) (e:fm (qb vs)=0):bA Tryz.prog 76 [.sl 1 (ae dI vs)] (.b_ [.sl 3 (ae bn (qb vs)),ai 0]):=by
 have Vz:=hv.len
 have tK:(ae dI vs).length=vs.length:=by rw [aA (e:=1) (fun _=>rfl)];omega
 have vO:=zu (vs:=vs) (n:=20) hv.each Vz
 have J0:(qb vs).length≤500:=by show vs.flatten.length+1≤_;omega
 have XU:∀x∈qb vs,fg x.kind:=fun x hx=>(FJ hv x hx).1
 have XV:∀x∈qb vs,x.cJ.length≤1000000:=fun x hx=>by have:=(FJ hv x hx).2;omega
 refine zO Tryz.func76 35<|zq<|zS<|zP 2 [yH [(1,yC (wg (vs) hv))],yH [(1,yV (ao false))]] [.aa [11,4,3,2,0] []] [yI (wg vs hv),yB (ao (ff (pX vs) vs.length != (0:Int))=ao false) (by simp [hf])]<|zF 11<|a6<|zP 1 [yH [(1,{k:=(ae dI vs).length}),(2,yV (aw (u64 (↑(ae dI vs).length:Int))))]] [.aa [5,11,4,3,2,0] [17]] [yR ((ae dI vs).length),yI (a8 (↑(ae dI vs).length:Int))]<|zS<|zQ 1 [yH [(1,{k:=(ae dI vs).length})]] [yR ((ae dI vs).length)]<|zB 0 (zL (fun (i:Nat)=>(⟨[(19,ai (↑(ae dI vs).length:Int)),(18,AV.sl 1 (ae dI vs)),(11,ao false),(4,ai (ff (pX vs) vs.length)),(3,ai 0),(2,AV.nil),(0,AV.sl 1 (ae dI vs)),(20,ai i),(5,AV.ref 29)],[(29,⟨3,true,false,ae bn (bG (u64 vs.length)::(vs.take i).flatten)⟩)]⟩:AS)) (fun i=>(i≤vs.length)) (fun i=>(vs.length-i)) (0) ?_ (eX [.wU 17 29,.loose 29,.aa [19,18,11,4,3,2,0,20,5] [29]] [] [29] [yB ([ai 5,aw (u64 (↑(ae dI vs).length:Int)),AV.val (Value.string (ByteArray.mk #[]))]=ae bn (bG (u64 (↑vs.length:Int))::(List.take 0 vs).flatten)) (by rw [tK];rfl)]) ?_)
 ·omega
 intro i hi
 have XS:=zu (vs:=vs.take i) (n:=20) (fun v hm=>hv.each v (List.mem_of_mem_take hm)) (by rw [List.length_take];omega)
 have P6:(ae bn (bG (u64 vs.length)::(vs.take i).flatten)).length≤1203:=by rw [aA (e:=3) (fun _=>rfl),List.length_cons];omega
 have Mj:(bG (u64 vs.length)::(vs.take i).flatten).length≤401:=by rw [List.length_cons];omega
 refine zq<|zS (zD 21 ((↑i:Int)<(↑(ae dI vs).length:Int)) (fun h=>?_) (fun h=>?_))
 ·have dc:i<vs.length:=ag
  have ic:=FI dc
  have hm:vs.getD i default∈vs:=by rw [List.getD_eq_getElem?_getD,List.getElem?_eq_getElem dc];exact List.getElem_mem dc
  have he:=hv.each _ hm
  have OX:(ae bn (vs.getD i default)).length≤60:=by rw [aA (e:=3) (fun _=>rfl)];omega
  have es:ae bn (bG (u64 vs.length)::(vs.take i).flatten)++ae bn (vs.getD i default)=ae bn (bG (u64 vs.length)::(vs.take (i+1)).flatten):=by
   have ef:(vs.take (i+1)).flatten=(vs.take i).flatten++vs.getD i default:=by
    rw [List.take_succ_eq_append_getElem dc,List.flatten_append,List.getD_eq_getElem?_getD,List.getElem?_eq_getElem dc]
    simp
   rw [fT,ef];rfl
  refine a6<|zS<|zB 1<|zP 1 [yH [(0,{k:=i}),(1,yV (AV.sl 3 (ae bn (vs.getD i default))))]] [.aa [7,21,19,18,11,4,3,2,0,20,5] [29]] [yR (↑i:Int),yO (i<(ae dI vs).length),yI ic]<|zS<|zP 1 [yH [(1,{k:=(bG (u64 (↑vs.length:Int))::(List.take i vs).flatten).length})]] [.aa [26,7,21,19,18,11,4,3,2,0,20,5] [29]] [yB ((ae bn (bG (u64 (↑vs.length:Int))::(List.take i vs).flatten)).length=(bG (u64 (↑vs.length:Int))::(List.take i vs).flatten).length*3) (by simp only [aA (f:=bn) (e:=3) (fun _=>rfl)])]<|dm 26 ((↑(bG (u64 (↑vs.length:Int))::(List.take i vs).flatten).length:Int)>512)<|a6<|zX (yH [(2,{b:=false})]) [yB (cC (ae bn (vs.getD i default))) (dJ (fun x=>xM x) _),yO (((ae bn (bG (u64 (↑vs.length:Int))::(List.take i vs).flatten)).length+(ae bn (vs.getD i default)).length)*32≤422212465065984)]<|aK<|al<|zX (yH [(0,yV (ai ((↑i:Int)+1)))]) [yN ((↑i:Int)+1)] (aF (i+1) (by assumption) ag (eX [.aa [19,18,11,4,3,2,0,20,5] [29]] [] [29] [yI es]))
 ·have e2:i=vs.length:=ag
  subst e2
  rw [List.take_length]
  refine zE 0<|a7<|aP<|bp<|al<|zP 1 [yH [(1,{av:=some (AV.b_ [AV.sl 3 (ae bn (bG (u64 (↑vs.length:Int))::vs.flatten)),ai 0]),b:=false})]] [.aa [3,2,21,19,18,11,4,0,20,5] []] [yI (CL (bG (u64 (↑vs.length:Int))::vs.flatten) (by assumption) (by assumption) (by assumption) (by assumption))]<|zR (bL)
structure fk (x:fP):Prop where
 kind:x.kind=1∨x.kind=3∨x.kind=4
 VK:il x=true
 cJ:x.cJ.length≤1024
 acc:ry x=0
theorem fk.uint (n:UInt64):fk (aL n):=⟨.inl rfl,rfl,Nat.zero_le _,rfl⟩
theorem fk.byte {b:List UInt8} (h:b.length≤1024):fk (fj b):=⟨.inr (.inl rfl),rfl,h,rfl⟩
theorem fk.text {b:List UInt8} (h:b.length≤1024) (hv:Lib.validD b=true):fk (cL b):=⟨.inr (.inr rfl),rfl,h,by
 unfold ry
 rw [if_neg]
 rintro ⟨-,q⟩
 have q:Lib.validD b=false:=q
 rw [hv] at q;cases q⟩
theorem ub {fr:List Int} {c:Nat} {x:fP} (h:fk x) (h1:c=0∨fr.length≠0) (h2:c<512) (h3:fr.length≤8):nE fr c x=0:=by
 have hk:=h.kind
 have ha:gD c fr.length x.kind=0:=by unfold gD;rw [if_neg ag,if_neg ag,if_neg ag]
 have hd:=h.cJ
 unfold nE
 rw [if_neg ag,if_neg ag,if_neg (by rw [h.VK];decide),if_neg ag,if_neg ag]
 exact h.acc
theorem Io {x:fP} (h:fk x) (k:Int):nC [k] x=if k=1 then [] else [k-1]:=by
 have hk:=h.kind
 have hp:lV x (nc [k])= [k-1]:=by
  unfold lV
  rw [if_neg ag]
  rfl
 unfold nC
 rw [hp]
 unfold pP
 by_cases e:k=1
 ·subst e;rfl
 ·rw [if_neg e]
  have:lW [k-1] 1=1:=by
   show (if ([k-1]:List Int).getD 0 0=0 then _ else _)=_
   rw [if_neg]
   show ¬(k-1=0)
   omega
  show List.take (lW [k-1] 1) [k-1]=_
  rw [this];rfl
theorem Ly {x:fP} (h:fk x):nC [] x= []:=by
 have hk:=h.kind
 unfold nC lV
 rw [if_neg ag]
 rfl
theorem Fg {n:UInt64} (h:0<wv n):nC [] (bG n)= [wv n]:=by
 have hp:lV (bG n) (nc [])= [wv n]:=if_pos ⟨rfl,h⟩
 unfold nC
 rw [hp]
 have:lW [wv n] 1=1:=by
  show (if ([wv n]:List Int).getD 0 0=0 then _ else _)=_
  rw [if_neg]
  show ¬(wv n=0)
  omega
 unfold pP
 show List.take (lW [wv n] 1) [wv n]=_
 rw [this];rfl
theorem AW {x:fP} (h:fk x):fm [x]=0:=by
 have h0:vE [x] 0=0:=ub h (.inl rfl) (by decide) (Nat.zero_le _)
 have hf:ff (vE [x]) 1=0:=by show (if _ then _ else _)=_;rw [if_neg (by show ¬(0:Int)≠0;decide)];exact h0
 have hv:vF [x] 1= []:=Ly h
 unfold fm
 show (if ff (vE [x]) 1≠0 then ff (vE [x]) 1 else if 0<1∧(vF [x] 1).length=0 then 0 else 1)=(0:Int)
 rw [if_neg ag,if_pos ⟨by decide,by rw [hv];rfl⟩]
section
variable {n:UInt64} {xs:List fP} (hx:∀x∈xs,fk x) (hn:wv n=xs.length) (h1:1≤xs.length) (h2:xs.length≤100)
include hx hn h1 h2
theorem C7:∀j,j≤xs.length->vF (bG n::xs) (j+1)=if j=xs.length then [] else [(xs.length:Int)-j]
 | 0,_=>by
  rw [if_neg ag]
  show nC [] (bG n)=_
  rw [Fg ag,hn];simp
 | j+1,hj=>by
  have ih:=C7 j ag
  rw [if_neg ag] at ih
  have hm:(bG n::xs).getD (j+1) default∈xs:=by
   show xs.getD j default∈xs
   rw [List.getD_eq_getElem?_getD,List.getElem?_eq_getElem ag];exact List.getElem_mem ag
  show nC (vF (bG n::xs) (j+1)) ((bG n::xs).getD (j+1) default)=_
  rw [ih,Io (hx _ hm)]
  by_cases e:j+1=xs.length
  ·rw [if_pos ag,if_pos e]
  ·rw [if_neg ag,if_neg e]
   congr 1
   omega
theorem NZ (j:Nat) (hj:j≤xs.length):vE (bG n::xs) j=0:=by
 cases j with
 | zero =>
  show nE [] 0 (bG n)=0
  unfold nE
  rw [if_neg ag,if_neg (by show ¬gD 0 0 5≠0;decide),if_neg (by show ¬il (bG n)=false;have:il (bG n)=true:=rfl;rw [this];decide),if_neg (by show ¬1024<0;decide),if_neg (by rintro ⟨-,q⟩;have q:512<wv n:=q;omega)]
  rfl
 | succ j =>
  have hm:(bG n::xs).getD (j+1) default∈xs:=by
   show xs.getD j default∈xs
   rw [List.getD_eq_getElem?_getD,List.getElem?_eq_getElem ag];exact List.getElem_mem ag
  have e:=C7 hx hn h1 h2 j ag
  rw [if_neg ag] at e
  show nE (vF (bG n::xs) (j+1)) (j+1) ((bG n::xs).getD (j+1) default)=0
  rw [e]
  exact ub (hx _ hm) (.inr (by simp)) ag (by simp)
theorem Ki:∀j,j≤xs.length+1->ff (vE (bG n::xs)) j=0
 | 0,_=>rfl
 | j+1,hj=>by
  show (if _ then _ else _)=_
  rw [if_neg (by rw [Ki j ag];decide)]
  exact NZ hx hn h1 h2 j ag
theorem E6:fm (bG n::xs)=0:=by
 have hf:=Ki hx hn h1 h2 (xs.length+1) (Nat.le_refl _)
 have hv:=C7 hx hn h1 h2 xs.length (Nat.le_refl _)
 rw [if_pos rfl] at hv
 unfold fm
 show (if ff (vE (bG n::xs)) (xs.length+1)≠0 then _ else if 0<xs.length+1∧(vF (bG n::xs) (xs.length+1)).length=0 then 0 else 1)=(0:Int)
 rw [if_neg ag,if_pos ⟨ag,by rw [hv];rfl⟩]
end
theorem pQ {xs:List fP} (hx:∀x∈xs,fk x) (h1:1≤xs.length) (h2:xs.length≤20):K7 (xs.map fun x=>[x])∧ff (pX (xs.map fun x=>[x])) (xs.map fun x=>[x]).length=0∧fm (qb (xs.map fun x=>[x]))=0∧qb (xs.map fun x=>[x])=bG (u64 xs.length)::xs:=by
 have vO:(xs.map fun x=>[x]).flatten=xs:=by
  clear hx h1 h2
  induction xs with
  | nil=>rfl
  | cons x l ih=>rw [List.map_cons,List.flatten_cons,ih];rfl
 have ha:qb (xs.map fun x=>[x])=bG (u64 xs.length)::xs:=by unfold qb;rw [vO,List.length_map]
 have ob:∀v∈xs.map fun x=>[x],∃x∈xs,v= [x]:=fun v hv=>by
  obtain ⟨x,hm,e⟩:=List.mem_map.1 hv
  exact ⟨x,hm,e.symm⟩
 refine ⟨⟨by rw [List.length_map];exact h2,fun v hv=>?_,fun v hv x PU=>?_,fun v hv x PU=>?_⟩,?_,?_,ha⟩
 ·obtain ⟨x,-,rfl⟩:=ob v hv;simp
 ·obtain ⟨y,hy,rfl⟩:=ob v hv
  have:=List.mem_singleton.1 PU
  subst this
  rcases (hx _ hy).kind with q|q|q
  ·exact .inl q
  ·exact .inr (.inl q)
  ·exact .inr (.inr (.inl q))
 ·obtain ⟨y,hy,rfl⟩:=ob v hv
  have:=List.mem_singleton.1 PU
  subst this
  have:=(hx _ hy).cJ
  omega
 ·have:∀j,j≤(xs.map fun x=>[x]).length->ff (pX (xs.map fun x=>[x])) j=0:=by
   intro j
   induction j with
   | zero=>intro _;rfl
   | succ j ih =>
    intro hj
    show (if _ then _ else _)=_
    rw [if_neg (by rw [ih ag];decide)]
    have CX:j<xs.length:=by rw [List.length_map] at hj;omega
    show fm ((xs.map fun x=>[x]).getD j default)=0
    rw [List.getD_eq_getElem?_getD,List.getElem?_map,List.getElem?_eq_getElem CX]
    exact AW (hx _ (List.getElem_mem CX))
  exact this _ (Nat.le_refl _)
 ·rw [ha]
  refine E6 hx ?_ h1 ag
  rw [rF];omega
def lP:List Int->Nat->List fP->Option (List Int)
 | fr,_,[]=>some fr
 | fr,c,x::l=>if nE fr c x=0 then lP (nC fr x) (c+1) l else none
theorem nO:∀(l m:List fP) (fr:List Int) (c:Nat),lP fr c (l++m)=(lP fr c l).bind fun f=>lP f (c+l.length) m
 | [],m,fr,c=>rfl
 | x::l,m,fr,c=>by
  show (if nE fr c x=0 then lP (nC fr x) (c+1) (l++m) else none)=(if nE fr c x=0 then lP (nC fr x) (c+1) l else none).bind _
  split
  ·rw [nO l m,show c+1+l.length=c+(x::l).length by rw [List.length_cons];omega]
  ·rfl
theorem Fj (l:List fP):∀n,n≤l.length-> ∀fr,lP [] 0 (l.take n)=some fr->vF l n=fr∧ff (vE l) n=0
 | 0,_,fr,h=>⟨by injection h,rfl⟩
 | n+1,hn,fr,h=>by
  have e:l.take (n+1)=l.take n++ [l.getD n default]:=by
   rw [List.take_add_one,List.getD_eq_getElem?_getD,List.getElem?_eq_getElem ag];rfl
  rw [e,nO] at h
  cases h1:lP [] 0 (l.take n) with
  | none=>rw [h1] at h;cases h
  | some g =>
   obtain ⟨i1,i2⟩:=Fj l n ag g h1
   rw [h1] at h
   have h:(if nE g (0+(l.take n).length) (l.getD n default)=0 then some (nC g (l.getD n default)) else none)=some fr:=h
   rw [List.length_take,Nat.min_eq_left ag,Nat.zero_add] at h
   split at h
   ·rename_i q
    injection h with h
    exact ⟨by show nC (vF l n) _=_;rw [i1,h],by show (if _ then _ else _)=_;rw [if_neg ag];show nE (vF l n) n _=0;rw [i1];exact q⟩
   ·cases h
theorem Lu {l:List fP} (h0:0<l.length) (h:lP [] 0 l=some []):fm l=0:=by
 obtain ⟨h1,h2⟩:=Fj l l.length (Nat.le_refl _) [] (by rw [List.take_length];exact h)
 unfold fm
 rw [if_neg ag,if_pos ⟨h0,by rw [h1];rfl⟩]
theorem sk (f:List Int) (k:Int):(f++ [k]).getD ((f++ [k]).length-1) 0=k:=by
 rw [List.length_append,show f.length+ [k].length-1=f.length from Nat.add_sub_cancel ..]
 simp [List.getD_eq_getElem?_getD]
theorem yk (f:List Int) (k:Int):nc (f++ [k])=f++ [k-1]:=by
 unfold nc
 rw [if_neg (by simp),sk,List.length_append,show f.length+ [k].length-1=f.length from Nat.add_sub_cancel ..]
 simp
theorem rU (f:List Int) {k:Int} (h:k≠0):pP (f++ [k])=f++ [k]:=by
 unfold pP
 have:lW (f++ [k]) (f++ [k]).length=(f++ [k]).length:=by
  rw [show (f++ [k]).length=f.length+1 by simp]
  show (if (f++ [k]).getD f.length 0=0 then _ else _)=_
  have:=sk f k
  rw [show (f++ [k]).length-1=f.length by simp] at this
  rw [this,if_neg h]
 rw [this,List.take_length]
theorem BB (f g:List Int):∀n,n≤f.length->lW (f++g) n=lW f n
 | 0,_=>rfl
 | n+1,h=>by
  show (if (f++g).getD n 0=0 then lW (f++g) n else n+1)=(if f.getD n 0=0 then lW f n else n+1)
  rw [BB f g n ag,List.getD_eq_getElem?_getD,List.getD_eq_getElem?_getD,List.getElem?_append_left ag]
theorem Fw (f:List Int):∀n,lW f n≤n
 | 0=>Nat.le_refl _
 | n+1=>by
  show (if f.getD n 0=0 then lW f n else n+1)≤_
  split
  ·have:=Fw f n;omega
  ·exact Nat.le_refl _
theorem GN (f:List Int):pP (f++ [0])=pP f:=by
 unfold pP
 have:lW (f++ [0]) (f++ [0]).length=lW f f.length:=by
  rw [show (f++ [(0:Int)]).length=f.length+1 by simp]
  show (if (f++ [(0:Int)]).getD f.length 0=0 then lW (f++ [0]) f.length else _)=_
  have:=sk f 0
  rw [show (f++ [(0:Int)]).length-1=f.length by simp] at this
  rw [if_pos this,BB f [0] _ (Nat.le_refl _)]
 rw [this,List.take_append_of_le_length (Fw f _)]
theorem Ff {x:fP} (h:fk x) (f:List Int) (k:Int):nC (f++ [k]) x=if k=1 then pP f else f++ [k-1]:=by
 have hk:=h.kind
 unfold nC lV
 rw [if_neg ag,yk]
 by_cases e:k=1
 ·rw [if_pos e,e];exact GN f
 ·rw [if_neg e];exact rU f ag
theorem N9 (f:List Int) (k:Int) {n:UInt64} (h:0<wv n):nC (f++ [k]) (bG n)=f++ [k-1]++ [wv n]:=by
 unfold nC lV
 rw [if_pos ⟨rfl,h⟩,yk]
 have h':wv n≠0:=ag
 exact rU _ h'
theorem Jp {fr:List Int} {c:Nat} {n:UInt64} (h1:c=0∨fr.length≠0) (h2:c<512) (h3:fr.length≤8) (hn:wv n≤512):nE fr c (bG n)=0:=by
 have ha:gD c fr.length 5=0:=by unfold gD;rw [if_neg ag,if_neg ag,if_neg ag]
 unfold nE
 rw [if_neg ag,if_neg (by show ¬gD c fr.length 5≠0;omega),if_neg (by show ¬il (bG n)=false;have:il (bG n)=true:=rfl;rw [this];decide),if_neg (by show ¬1024<0;decide),if_neg (by rintro ⟨-,q⟩;have q:512<wv n:=q;omega)]
 rfl
theorem uS {f:List Int} (hf:f.length≤6):∀ {xs:List fP} {k:Int} {c:Nat},(∀x∈xs,fk x)->(xs.length:Int)<k->c+xs.length≤500->lP (f++ [k]) c xs=some (f++ [k-xs.length])
 | [],k,c,_,_,_=>by show some (f++ [k])=some (f++ [k-((0:Nat):Int)]);simp
 | x::xs,k,c,hx,hk,hc=>by
  have Qc:c+(xs.length+1)≤500:=hc
  have tM:((xs.length+1:Nat):Int)<k:=hk
  have hl:=hx x (List.mem_cons_self ..)
  show (if nE (f++ [k]) c x=0 then lP (nC (f++ [k]) x) (c+1) xs else none)=_
  rw [if_pos (ub hl (.inr (by simp)) ag (by simp;omega)),Ff hl,if_neg ag,uS hf (fun y hy=>hx y (List.mem_cons_of_mem _ hy)) ag ag]
  show some (f++ [k-1-(xs.length:Int)])=some (f++ [k-((xs.length+1:Nat):Int)])
  rw [show k-((xs.length+1:Nat):Int)=k-1-xs.length by omega]
theorem uT {f:List Int} (hf:f.length≤6):∀ {xs:List fP} {c:Nat},(∀x∈xs,fk x)->0<xs.length->c+xs.length≤500->lP (f++ [(xs.length:Int)]) c xs=some (pP f)
 | [],_,_,h,_=>by cases h
 | x::xs,c,hx,_,hc=>by
  have Qc:c+(xs.length+1)≤500:=hc
  have hl:=hx x (List.mem_cons_self ..)
  show (if nE (f++ [((xs.length+1:Nat):Int)]) c x=0 then lP (nC (f++ [((xs.length+1:Nat):Int)]) x) (c+1) xs else none)=_
  rw [if_pos (ub hl (.inr (by simp)) ag (by simp;omega)),Ff hl]
  by_cases e:xs.length=0
  ·rw [if_pos ag,List.eq_nil_of_length_eq_zero e];rfl
  ·rw [if_neg ag,show ((xs.length+1:Nat):Int)-1=xs.length by omega]
   exact uT hf (fun y hy=>hx y (List.mem_cons_of_mem _ hy)) ag ag
theorem xH {f:List Int} (hf:f.length≤4) {xs:List fP} {k:Int} {c:Nat} {n:UInt64} (hx:∀x∈xs,fk x) (hn:wv n=xs.length) (h1:0<xs.length) (hk:1<k) (hc:c+xs.length≤400):lP (f++ [k]) c (bG n::xs)=some (f++ [k-1]):=by
 show (if nE (f++ [k]) c (bG n)=0 then lP (nC (f++ [k]) (bG n)) (c+1) xs else none)=_
 rw [if_pos (Jp (.inr (by simp)) ag (by simp;omega) ag),N9 _ _ ag,hn,uT (by simp;omega) hx h1 ag,rU _ ag]
theorem Iy {n:UInt64} (l:List fP) (h:0<wv n) (h2:wv n≤512):lP [] 0 (bG n::l)=lP ([]++ [wv n]) 1 l:=by
 show (if nE [] 0 (bG n)=0 then lP (nC [] (bG n)) 1 l else none)=_
 rw [if_pos (Jp (.inl rfl) ag (by simp) h2),Fg h];rfl
def ck (h:Int):Prop:=h<0∨4<h
instance (h:Int):Decidable (ck h):=inferInstanceAs (Decidable (_∨_))
theorem dt (h:Int):bA Tryz.prog 87 [ai h] (ao (decide (ck h))):=by
 by_cases h1:h<0
 ·have e:decide (ck h)=true:=decide_eq_true (.inl h1)
  refine zO Tryz.func87 9<|zP 2 [{},{}] [.aa [2,0] []] (yM 3 (yT (h<0)))<|zR (zV [yB (Value.bool true=Value.bool (decide (ck h))) (by rw [e])])
 ·by_cases h2:h>4
  ·have e:decide (ck h)=true:=decide_eq_true (.inr h2)
   refine zO Tryz.func87 9<|zP 2 [{},yH ([(5,{b:=false})]++yg [3,4])] [.aa [2,0] []] (yM 3 (yF (h<0)))<|zR (zV [yB (Value.bool (decide (h>4))=Value.bool (decide (ck h))) (by rw [e,decide_eq_true h2])])
  ·have e:decide (ck h)=false:=decide_eq_false (by rintro (h|h)<;>omega)
   refine zO Tryz.func87 9<|zP 2 [{},yH ([(5,{b:=false})]++yg [3,4])] [.aa [2,0] []] (yM 3 (yF (h<0)))<|zR (zV [yB (Value.bool (decide (h>4))=Value.bool (decide (ck h))) (by rw [e,decide_eq_false h2])])
theorem bc (h:Int):bA Tryz.prog 91 [ai h] (ao (!decide (ck h))):=by
 by_cases h1:h<0
 ·have e:decide (ck h)=true:=decide_eq_true (.inl h1)
  refine zO Tryz.func91 9<|zP 2 [{},yH ([(5,{b:=false})]++yg [3,4])] [.aa [2,0] []] (yM 3 (yF (h≥0)))<|zR (zV [yB (Value.bool false=Value.bool !decide (ck h)) (by rw [e];rfl)])
 ·by_cases h2:h>4
  ·have e:decide (ck h)=true:=decide_eq_true (.inr h2)
   refine zO Tryz.func91 9<|zP 2 [{},{}] [.aa [2,0] []] (yM 3 (yT (h≥0)))<|zR (zV [yB (Value.bool (decide (h≤4))=Value.bool !decide (ck h)) (by rw [e,decide_eq_false ag];rfl)])
  ·have e:decide (ck h)=false:=decide_eq_false (by rintro (h|h)<;>omega)
   refine zO Tryz.func91 9<|zP 2 [{},{}] [.aa [2,0] []] (yM 3 (yT (h≥0)))<|zR (zV [yB (Value.bool (decide (h≤4))=Value.bool !decide (ck h)) (by rw [e,decide_eq_true ag];rfl)])
def gG (h:Int):Int:=if ck h then 9 else 0
def dP (h:Int) (r:UInt64):List UInt8:=if ck h then [] else u8 h::words [r]
def ia (lv:Int) (a b:UInt64):UInt64:=hash 3 (words [u64 lv,a,b])
theorem pR (lv:Int) (a b:UInt64):bA Tryz.prog 144 [ai lv,aw a,aw b] (aw (ia lv a b)):=by
 refine zO Tryz.func144 14<|zP 2 [{},yH [(1,yV (aw (u64 lv))),(4,yV (AV.arr (aj [u64 lv,a,b]))),(5,yV (AV.own 1 (ah (words [u64 lv,a,b])))),(6,yV (aw (hash (3:Int) (words [u64 lv,a,b]))))]] [.aa [6,0,1,2] []] [yI (a8 lv),yR (aj [u64 lv,a,b]),yI (kB [u64 lv,a,b] (by simp only [List.length_cons,List.length_nil];omega)),yI (aQ (words [u64 lv,a,b])),yI (oh ((3:Int)) (words [u64 lv,a,b]))]<|zR (bL)
theorem lT (lv:Int) (a b:UInt64):bA Tryz.prog 115 [ai lv,aw a,aw b] (aw (ia lv a b)):=by
 refine zO Tryz.func115 14<|zP 2 [{},yH [(1,yV (aw (u64 lv))),(4,yV (AV.arr (aj [u64 lv,a,b]))),(5,yV (AV.own 1 (ah (words [u64 lv,a,b])))),(6,yV (aw (hash (3:Int) (words [u64 lv,a,b]))))]] [.aa [6,0,1,2] []] [yI (a8 lv),yR (aj [u64 lv,a,b]),yI (dG [u64 lv,a,b] (by simp only [List.length_cons,List.length_nil];omega)),yI (aQ (words [u64 lv,a,b])),yI (iN ((3:Int)) (words [u64 lv,a,b]) (by simp only [List.length_cons,List.length_nil,dZ];omega))]<|zR (bL)
def gq (seed:UInt64):Nat->Nat->UInt64
 | 0,i=>combine i (bI seed i 18)
 | lv+1,i=>ia ((lv+1:Nat):Int) (gq seed lv (2*i)) (gq seed lv (2*i+1))
theorem sZ (seed:UInt64) (lv:Nat):∀(i:Nat),lv≤4->i<2^(40-lv)->bA Tryz.prog 103 [aw seed,ai lv,ai i] (aw (gq seed lv i)):=by
 induction lv with
 | zero =>
  intro i _ hi
  refine zO Tryz.func103 27<|zq<|zS<|zq<|du 8 ((↑(0:Nat):Int) == (0:Int)) fh<|zP 1 [yH [(2,yC (s5 (seed) ((↑i:Int))))]] [.aa [6,8,0,1,2] []] [yI (s5 seed ((↑i:Int)))]<|dk (bL)
 | succ lv ih =>
  intro i hl hi
  have e:2^(40-lv)=2*2^(40-(lv+1)):=by rw [show 40-lv=40-(lv+1)+1 by omega,Nat.pow_succ,Nat.mul_comm]
  have hp:2^(40-(lv+1))≤2^40:=Nat.pow_le_pow_right (by decide) ag
  obtain ⟨j,hj⟩:∃j:Nat,2*i=j:=⟨_,rfl⟩
  obtain ⟨j2,CX⟩:∃j2:Nat,2*i+1=j2:=⟨_,rfl⟩
  have h1:=ih j ag ag
  have h2:=ih j2 ag ag
  clear ih
  generalize 2^(40-lv)=p1 at *
  generalize 2^(40-(lv+1))=p2 at *
  have ew:gq seed (lv+1) i=ia ((lv+1:Nat):Int) (gq seed lv j) (gq seed lv j2):=by rw [←hj,←CX];rfl
  rw [ew]
  generalize gq seed lv j=n1 at *
  generalize gq seed lv j2=n2 at *
  have e1:IntKind.i64.wrap (((lv+1:Nat):Int)-1)=(lv:Int):=by rw [IntKind.wrap_i64];omega
  have e2:IntKind.i64.wrap (2*(i:Int))=(j:Int):=by rw [IntKind.wrap_i64];omega
  have e3:IntKind.i64.wrap ((j:Int)+1)=(j2:Int):=by rw [IntKind.wrap_i64];omega
  refine zO Tryz.func103 27<|zq<|zS<|zq<|bj 8 ((↑(lv+1):Int) == (0:Int)) bx<|a6<|zP 1 [yH [(3,yV (ai ↑lv)),(5,yV (ai ↑j)),(6,yC h1),(9,yV (ai ↑lv)),(11,yV (ai ↑j)),(12,yV (ai ↑j2)),(13,yC h2),(14,yV (aw (ia (↑(lv+1):Int) n1 n2)))]] [.aa [6,8,0,1,2] []] [yI (yc e1),yI (yc e2),yI h1,yI (yc e1),yI (yc e2),yI (yc e3),yI h2,yI (lT (↑(lv+1):Int) n1 n2)]<|zR (bL)
end Go.Proofs.YtjgbhhnghedgdaaGreatDoor
