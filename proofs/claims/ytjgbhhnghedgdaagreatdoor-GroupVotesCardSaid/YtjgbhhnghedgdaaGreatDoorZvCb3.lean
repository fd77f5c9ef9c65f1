import Derived.Test.YtjgbhhnghedgdaaGreatDoorZvCb2
set_option linter.all false
namespace Go.Proofs.YtjgbhhnghedgdaaGreatDoor
open Go.RowKit
set_option maxRecDepth 100000
set_option maxHeartbeats 4000000
instance:Inhabited fS:=⟨⟨0,0,[]⟩⟩
def vF (l:List fS):Nat->List Int
 | 0=>[]
 | n+1=>nD (vF l n) (l.getD n default)
def vE (l:List fS) (i:Nat):Int:=nF (vF l i) i (l.getD i default)
def fm (l:List fS):Int:=if ff (vE l) l.length≠0 then ff (vE l) l.length else if 0<l.length∧(vF l l.length).length=0 then 0 else 1
theorem KV (fr:List Int) (x:fS):(nD fr x).length≤fr.length+1:=by
 unfold nD pO
 have h:=Bk x (nj fr)
 rw [Ch] at h
 rw [List.length_take];omega
theorem HC (l:List fS):∀n,(vF l n).length≤n
 | 0=>Nat.le_refl _
 | n+1=>by
  have:=HC l n
  have:=KV (vF l n) (l.getD n default)
  show (nD _ _).length≤_
  omega
theorem Mm {l:List fS}:∀ {n:Nat},(∀j,j<n->(l.getD j default).kind=5->wv (l.getD j default).num≤512)-> ∀k∈vF l n,-(n:Int)≤k∧k≤512
 | 0,_,k,hk=>by cases hk
 | n+1,h,k,hk=>by
  have ih:=Mm (l:=l) (n:=n) (fun j hj=>h j ag)
  have h5:=h n ag
  have hk:k∈pO (lY (l.getD n default) (nj (vF l n))):=hk
  have hk:=List.mem_of_mem_take hk
  have hd:∀k∈nj (vF l n),-((n+1:Nat):Int)≤k∧k≤512:=by
   intro k hk
   unfold nj at hk
   split at hk
   ·have:=ih k hk;omega
   ·rename_i h0
    have hm:=ih ((vF l n).getD ((vF l n).length-1) 0) (by rw [List.getD_eq_getElem?_getD,List.getElem?_eq_getElem ag];exact List.getElem_mem ag)
    rcases List.mem_or_eq_of_mem_set hk with q|q
    ·have:=ih k q;omega
    ·omega
  unfold lY at hk
  split at hk
  ·rename_i hx
   rcases List.mem_append.1 hk with q|q
   ·exact hd k q
   ·have e:=List.mem_singleton.1 q
    have:=h5 hx.1
    omega
  ·exact hd k hk
theorem Ln {fr:List Int} {c:Nat} {x:fS} (h:nF fr c x=0) (h5:x.kind=5):wv x.num≤512:=by
 apply Classical.byContradiction
 intro q
 unfold nF at h
 split at h
 ·omega
 ·split at h
  ·rename_i q2;exact q2 h
  ·split at h
   ·omega
   ·split at h
    ·omega
    ·rw [if_pos ⟨h5,ag⟩] at h;omega
theorem zw {f:Nat->Int}:∀ {n:Nat},ff f n=0-> ∀j,j<n->f j=0
 | 0,_,j,hj=>by omega
 | n+1,h,j,hj=>by
  have h1:ff f n=0:=by
   apply Classical.byContradiction
   intro q
   have:ff f (n+1)=ff f n:=by show (if _ then _ else _)=_;rw [if_pos q]
   omega
  have h2:f n=0:=by
   have:ff f (n+1)=f n:=by show (if _ then _ else _)=_;rw [if_neg ag]
   omega
  by_cases e:j=n
  ·subst e;exact h2
  ·exact zw h1 j ag
theorem i5 (l:List fS) (hl:l.length≤500) (hk:∀x∈l,fg x.kind) (hd:∀x∈l,x.cL.length≤1000000):bG Tryz.prog 127 [.sl 3 (af bp l)] (ai (fm l)):=by
 have ud:(af bp l).length=l.length*3:=aE (e:=3) (fun _=>rfl) ..
 refine zO Tryz.func127 22<|zQ 2 [{},{}] []<|bg.nL (bQ.Ma 3 0 99 3 (r:=⟨1,false,true,[.nil,ai 0]⟩) bu rfl rfl bu)<|zS<|zQ 1 [yH [(1,{k:=l.length})]] [yI ud]<|zB 0 (zL (fun (i:Nat)=>(⟨[(8,ai (↑l.length:Int)),(7,AV.sl 3 (af bp l)),(3,AV.addr 3 0),(0,AV.sl 3 (af bp l)),(9,ai i)],[(3,⟨1,false,true,[.ref 99,ai i]⟩),(99,⟨3,true,false,af cK (vF l i)⟩)]⟩:AS)) (fun i=>(i≤l.length∧ff (vE l) i=0)) (fun i=>(l.length-i)) (0) ?_ (zW [.aa [8,7,3,0,9] [3,99]]) ?_)
 ·exact ⟨ag,rfl⟩
 rintro i ⟨hi,h0⟩
 have wN:=HC l i
 have gD:=zw h0
 have lL:=Mm (l:=l) (n:=i) (fun j hj h5=>Ln (gD j hj) h5)
 have gu:∀k∈vF l i,-1000≤k∧k≤1000:=fun k hm=>by have:=lL k hm;omega
 have QH:(vF l i).length≤1000:=ag
 clear gD lL wN
 refine zq<|zS (zD 10 ((↑i:Int)<(↑l.length:Int)) (fun h=>?_) (fun h=>?_))
 ·have dI:i<l.length:=ag
  have hm:l.getD i default∈l:=by rw [List.getD_eq_getElem?_getD,List.getElem?_eq_getElem dI];exact List.getElem_mem dI
  have QC:=hk _ hm
  have QL:=hd _ hm
  by_cases e:nF (vF l i) i (l.getD i default)=0
  ·have dJ:=Gj (vF l i) i (l.getD i default) e QC QH gu ag QL
   have k2:ff (vE l) (i+1)=0:=by show (if _ then _ else _)=_;rw [if_neg ag];exact e
   refine a_<|zS<|zB 1<|zP 3 [yH [(0,{k:=i}),(1,yV (AV.agg (bp (l.getD i default))))],yH [(1,yE [(3,1000000000000),(99,5)] dJ)],{}] [.aa [16,6,5,10,8,7,3,0,9] [3,99,5]] [yR (↑i:Int),yO (i*3<(af bp l).length),yu bp l i 0 3,yR 3,yL 3 3,yI dJ,yB ([AV.ref 99,ai ↑i].length= [AV.ref 5,ai (↑(i+1):Int)].length∧0< [AV.ref 5,ai (↑(i+1):Int)].length) ⟨rfl,Nat.succ_pos _⟩]<|zF 16<|zK<|aJ<|al<|zX (yH [(0,yV (ai ((↑i:Int)+1)))]) [yN ((↑i:Int)+1)] (aH (i+1) ⟨ag,k2⟩ ag (zW [.aa [8,7,3,0,9] [3,99]]))
  ·have dJ:=C_ (vF l i) i (l.getD i default) e QC QH ag QL
   have k2:ff (vE l) (i+1)=vE l i:=by show (if _ then _ else _)=_;rw [if_neg ag]
   have k3:=lN (E:=vE l) e k2 l.length ag
   have k4:fm l=nF (vF l i) i (l.getD i default):=by unfold fm;rw [if_pos (by rw [k3];exact e),k3]
   refine a_<|zS<|zB 1<|zP 3 [yH [(0,{k:=i}),(1,yV (AV.agg (bp (l.getD i default))))],yH [(1,yE [(3,1000000000000),(99,5)] dJ)],{}] [.aa [16,6,5,10,8,7,3,0,9] [3,99,5]] [yR (↑i:Int),yO (i*3<(af bp l).length),yu bp l i 0 3,yR 3,yL 3 3,yI dJ,yB ([AV.ref 99,ai ↑i].length= [AV.ref 5,ai ↑i].length∧0< [AV.ref 5,ai ↑i].length) (by simp [e])]<|dB 16 (nF (vF l i) i (l.getD i default) != (0:Int)) (by simp_all)<|zP 1 [{}] [.aa [2,16,6,5,10,8,7,3,0,9] [3,99,5]] []<|zR<|bc<|aK<|dN<|bc<|aK (zV [yJ (nF (vF l i) i (l.getD i default)) (fm l) (by rw [k4])])
 ·have e:i=l.length:=ag
  subst e
  by_cases Pj:0<l.length∧(vF l l.length).length=0
  ·have k4:fm l=0:=by unfold fm;rw [if_neg ag,if_pos Pj]
   refine zE 0<|a6<|aM<|bm<|al<|zS<|zP 1 [yH [(1,yE [(3,1000000000000),(99,5)] (cO (vF l l.length) (l.length) ag)),(2,yV (ao false))]] [.aa [21,10,8,7,3,0,9] [3,99]] [yI (cO (vF l l.length) l.length ag),yB ([AV.ref 99,ai (↑l.length:Int)].length= [AV.ref 5,ai (↑l.length:Int)].length∧0< [AV.ref 5,ai (↑l.length:Int)].length) ⟨rfl,Nat.succ_pos _⟩,yB (ao (!decide (0<l.length∧(vF l l.length).length=0))=ao false) (by rw [decide_eq_true Pj];rfl)]<|zF 21<|a_<|zq<|zR (zV [yJ 0 (fm l) (by rw [k4])])
  ·have k4:fm l=1:=by unfold fm;rw [if_neg ag,if_neg Pj]
   refine zE 0<|a6<|aM<|bm<|al<|zS<|zP 1 [yH [(1,yE [(3,1000000000000),(99,5)] (cO (vF l l.length) (l.length) ag)),(2,yV (ao true))]] [.aa [21,10,8,7,3,0,9] [3,99]] [yI (cO (vF l l.length) l.length ag),yB ([AV.ref 99,ai (↑l.length:Int)].length= [AV.ref 5,ai (↑l.length:Int)].length∧0< [AV.ref 5,ai (↑l.length:Int)].length) ⟨rfl,Nat.succ_pos _⟩,yB (ao (!decide (0<l.length∧(vF l l.length).length=0))=ao true) (by rw [decide_eq_false Pj];rfl)]<|zT 21<|zq<|dC (zV [yJ 1 (fm l) (by rw [k4])])
def pD (n:UInt64) (s q:Nat):List UInt8:=(List.range q).map fun j=>(n>>>UInt64.ofNat (8*(s-1-j))).toUInt8
def cQ (m:UInt8) (n:UInt64):List UInt8 :=
 if wv n<24 then [m<<<5+n.toUInt8] else if wv n<256 then (m<<<5+24)::pD n 1 1 else if wv n<65536 then (m<<<5+25)::pD n 2 2 else if wv n<4294967296 then (m<<<5+26)::pD n 4 4 else (m<<<5+27)::pD n 8 8
theorem Ew (n:UInt64) (s q:Nat):(pD n s q).length=q:=by simp [pD]
theorem HH (n:UInt64) (s q:Nat):pD n s (q+1)=pD n s q++ [(n>>>UInt64.ofNat (8*(s-1-q))).toUInt8]:=by
 unfold pD
 rw [List.range_succ,List.map_append];rfl
def K4 (o:List UInt8):List (Nat×Row):=[(5,⟨1,true,false,aj o⟩)]
theorem iU (o:List UInt8) (m:UInt8) (n:UInt64) (ho:o.length≤1000000):gn Tryz.prog 164 [.ref 5,ab m,aw n] (K4 o) (.own 1 (aj (o++cQ m n))) (K4 []):=by
 have Cu:(aj o).length=o.length:=aB o
 have XA:=Mj n
 refine nC Tryz.func164 58<|zP 3 [{},yH [(1,yV (ab (m<<<(5:UInt8))))],{}] [.aa [8,7,6,0,1,2] [5]] [yI (Mf m ((5:Int)) ag ag),yO ((0:Int)≤5)] ?_
 by_cases h1:wv n<24
 ·have e:cQ m n= [m<<<5+n.toUInt8]:=if_pos h1
  refine zS<|zB 0<|zP 1 [{}] [.aa [14,8,7,6,0,1,2] [5]] []<|iw 14 (wv n<24)<|zP 1 [yH [(3,yV (ab n.toUInt8)),(4,yV (ab (m<<<(5:UInt8)+n.toUInt8))),(5,yV (AV.arr (aj [m<<<(5:UInt8)+n.toUInt8]))),(6,yV (AV.arr (aj (o++ [m<<<(5:UInt8)+n.toUInt8]))))]] [.aa [6,14,8,7,1,2] [23]] [yR (ab n.toUInt8),yR (ab (m<<<(5:UInt8)+n.toUInt8)),yR [ab (m<<<(5:UInt8)+n.toUInt8)],yB (aj o++aj [m<<<(5:UInt8)+n.toUInt8]=aj (o++ [m<<<(5:UInt8)+n.toUInt8])) (db _ _),yO (((aj o).length+1)*1≤140737488355328)]<|bg.nL (bQ.add 5 1 bu)<|zR<|bc<|aK (zG [] [yB (aj (o++ [m<<<(5:UInt8)+n.toUInt8])=aj (o++cQ m n)) (by rw [e]),yB ([]=aj []) rfl])
 refine bg.ob (fun (t:UInt8×Nat)=>(⟨[(0,AV.ref 5),(1,ab m),(2,aw n),(7,ab t.1),(8,ai t.2)],[(5,⟨1,true,false,aj o⟩)]⟩:AS)) (fun t=>(cQ m n=t.1::pD n t.2 t.2∧1≤t.2∧t.2≤8)) bu ?_ ?_
 ·by_cases h2:wv n<256
  ·have e:cQ m n=(m<<<5+24)::pD n 1 1:=by unfold cQ;rw [if_neg h1,if_pos h2]
   refine zB 0<|zP 1 [{}] [.aa [14,8,7,6,0,1,2] [5]] []<|dF 14 (wv n<24)<|zP 1 [{}] [.aa [24,14,8,7,6,0,1,2] [5]] []<|iw 24 (wv n<256)<|zX (yH [(1,yV (ab (m<<<(5:UInt8)+24)))]) [yR (ab (m<<<(5:UInt8)+24))]<|aJ<|al (⟨(m<<<5+24,1),(by refine ⟨?_,?_⟩<;>omega),(zW [.aa [0,1,2,7,8] [5]])⟩)
  by_cases h3:wv n<65536
  ·have e:cQ m n=(m<<<5+25)::pD n 2 2:=by unfold cQ;rw [if_neg h1,if_neg h2,if_pos h3]
   refine zB 0<|zP 1 [{}] [.aa [14,8,7,6,0,1,2] [5]] []<|dF 14 (wv n<24)<|zP 1 [{}] [.aa [24,14,8,7,6,0,1,2] [5]] []<|dF 24 (wv n<256)<|zP 1 [{}] [.aa [29,24,14,8,7,6,0,1,2] [5]] []<|iw 29 (wv n<65536)<|zX (yH [(1,yV (ab (m<<<(5:UInt8)+25)))]) [yR (ab (m<<<(5:UInt8)+25))]<|aJ<|al (⟨(m<<<5+25,2),(by refine ⟨?_,?_⟩<;>omega),(zW [.aa [0,1,2,7,8] [5]])⟩)
  by_cases h4:wv n<4294967296
  ·have e:cQ m n=(m<<<5+26)::pD n 4 4:=by unfold cQ;rw [if_neg h1,if_neg h2,if_neg h3,if_pos h4]
   refine zB 0<|zP 1 [{}] [.aa [14,8,7,6,0,1,2] [5]] []<|dF 14 (wv n<24)<|zP 1 [{}] [.aa [24,14,8,7,6,0,1,2] [5]] []<|dF 24 (wv n<256)<|zP 1 [{}] [.aa [29,24,14,8,7,6,0,1,2] [5]] []<|dF 29 (wv n<65536)<|zP 1 [{}] [.aa [34,29,24,14,8,7,6,0,1,2] [5]] []<|iw 34 (wv n<4294967296)<|zX (yH [(1,yV (ab (m<<<(5:UInt8)+26)))]) [yR (ab (m<<<(5:UInt8)+26))]<|aJ<|al (⟨(m<<<5+26,4),(by refine ⟨?_,?_⟩<;>omega),(zW [.aa [0,1,2,7,8] [5]])⟩)
  ·have e:cQ m n=(m<<<5+27)::pD n 8 8:=by unfold cQ;rw [if_neg h1,if_neg h2,if_neg h3,if_neg h4]
   refine zB 0<|zP 1 [{}] [.aa [14,8,7,6,0,1,2] [5]] []<|dF 14 (wv n<24)<|zP 1 [{}] [.aa [24,14,8,7,6,0,1,2] [5]] []<|dF 24 (wv n<256)<|zP 1 [{}] [.aa [29,24,14,8,7,6,0,1,2] [5]] []<|dF 29 (wv n<65536)<|zP 1 [{}] [.aa [34,29,24,14,8,7,6,0,1,2] [5]] []<|dF 34 (wv n<4294967296)<|zX (yH [(1,yV (ab (m<<<(5:UInt8)+27)))]) [yR (ab (m<<<(5:UInt8)+27))]<|aJ<|al (⟨(m<<<5+27,8),(by refine ⟨?_,?_⟩<;>omega),(zW [.aa [0,1,2,7,8] [5]])⟩)
 rintro ⟨f,s⟩ ⟨e,s1,s8⟩
 simp only at e s1 s8
 have Dj:=Ew n s
 refine zP 1 [yH [(2,yV (AV.arr (aj [f]))),(3,yV (AV.ref 42))]] [.aa [0,1,2,7,8] [42]] [yR [ab f],yO (((aj o).length+1)*1≤140737488355328)]<|zS<|zP 1 [yH [(1,yV (ai ((↑s:Int)-1)))]] [.aa [9,0,1,2,7,8] [42]] [yN ((↑s:Int)-1)]<|zB 1 (zL (fun (q:Nat)=>(⟨[(1,ab m),(2,aw n),(7,ab f),(8,ai ↑s),(9,ai ((s:Int)-1-q)),(0,AV.ref 42)],[(42,⟨1,true,false,aj (o++f::pD n s q)⟩)]⟩:AS)) (fun q=>(q≤s)) (fun q=>(s-q)) (0) ?_ (eS [.aa [1,2,7,8,9,0] [42]] [9] [42] [yB (ai ((↑s:Int)-1)=ai ((↑s:Int)-1-(↑(0:Nat):Int))) (congrArg (fun n=>AV.val (.int .i64 n)) ag),yB (aj o++aj [f]=aj (o++f::pD n s 0)) (by rw [db];rfl)]) ?_)
 ·omega
 intro q hq
 have V6:=Ew n s q
 have XD:(aj (o++f::pD n s q)).length=o.length+(q+1):=by rw [aB,List.length_append,List.length_cons,V6]
 refine zS<|zP 1 [{}] [.aa [46,1,2,7,8,9,0] [42]] [] (zD 46 ((↑s:Int)-1-(↑q:Int)≥0) (fun h=>?_) (fun h=>?_))
 ·have w:IntKind.i64.wrap (8*((s:Int)-1-q))=((8*(s-1-q):Nat):Int):=by rw [IntKind.wrap_i64];omega
  refine a_<|zS<|zB 2<|zX (yH [(3,yV (ai (↑(8*(s-1-q)):Int))),(4,yV (aw (n>>>UInt64.ofNat (↑(8*(s-1-q)):Int).toNat))),(5,yV (ab ((n>>>UInt64.ofNat (↑(8*(s-1-q)):Int).toNat).toUInt8))),(6,yV (AV.arr (aj [(n>>>UInt64.ofNat (↑(8*(s-1-q)):Int).toNat).toUInt8]))),(7,yV (AV.arr (aj (o++f::pD n s q++ [(n>>>UInt64.ofNat (↑(8*(s-1-q)):Int).toNat).toUInt8]))))]) [yI (yc w),yI (fB n ((↑(8*(s-1-q)):Int)) ag ag),yO ((0:Int)≤(↑(8*(s-1-q)):Int)),yR (ab ((n>>>UInt64.ofNat (↑(8*(s-1-q)):Int).toNat).toUInt8)),yR [ab ((n>>>UInt64.ofNat (↑(8*(s-1-q)):Int).toNat).toUInt8)],yB (aj (o++f::pD n s q)++aj [(n>>>UInt64.ofNat (↑(8*(s-1-q)):Int).toNat).toUInt8]=aj (o++f::pD n s q++ [(n>>>UInt64.ofNat (↑(8*(s-1-q)):Int).toNat).toUInt8])) (db _ _),yO (((aj (o++f::pD n s q)).length+1)*1≤140737488355328)]<|aJ<|al<|zX (yH [(1,yV (ai ((↑s:Int)-1-(↑q:Int)-1)))]) [yN ((↑s:Int)-1-(↑q:Int)-1)] (aH (q+1) ag ag (eS [.uX 56 42,.aa [1,2,7,8,9,0] [42]] [9] [42] [yB (ai ((↑s:Int)-1-(↑q:Int)-1)=ai ((↑s:Int)-1-(↑(q+1):Int))) (congrArg (fun n=>AV.val (.int .i64 n)) ag),yB (aj (o++f::pD n s q++ [(n>>>UInt64.ofNat (↑(8*(s-1-q)):Int).toNat).toUInt8])=aj (o++f::pD n s (q+1))) (congrArg aj (by rw [HH,Int.toNat_natCast];simp))]))
 ·have e2:q=s:=ag
  subst e2
  refine bg.nL (bQ.add 5 1 bu)<|zE 1<|a6<|aM<|bm<|al<|zq<|zR (zG [] [yB (aj (o++f::pD n q q)=aj (o++cQ m n)) (by rw [e]),yB ([]=aj []) rfl])
def kb (x:fS):List UInt8:=if x.kind=3∨x.kind=4 then cQ (u8 (x.kind-1)) (u64 x.cL.length)++x.cL else cQ (u8 (x.kind-1)) x.num
theorem my (m:UInt8) (n:UInt64):(cQ m n).length≤9:=by
 unfold cQ
 split
 ·simp
 ·split
  ·simp [pD]
  ·split
   ·simp [pD]
   ·split<;>simp [pD]
theorem rk (o:List UInt8) (x:fS) (hk:fg x.kind) (ho:o.length≤900000) (hd:x.cL.length≤10000):gn Tryz.prog 128 [.ref 5,.agg (bp x)] (K4 o) (.own 1 (aj (o++kb x))) (K4 []):=by
 have hz:(⟨x.cL.toArray⟩:ByteArray).size≤maxLen:=by
  show x.cL.toArray.size≤_
  unfold maxLen
  simp;omega
 rcases hk with h|h|h|h
 ·have e:kb x=cQ (u8 (x.kind-1)) x.num:=if_neg ag
  refine nC Tryz.func128 46<|zq<|zS<|zq<|zB 0<|zP 1 [{}] [.aa [7,6,4,3,0,1] [3,5]] []<|bk 7 (x.kind == (7:Int)) bD<|zq<|bk 16 (x.kind == (8:Int)) bD<|zS<|zP 1 [{}] [.aa [21,16,7,6,4,3,0,1] [3,5]] []<|bk 21 (x.kind == (3:Int)) bD<|zX {} []<|al<|bk 21 (x.kind == (4:Int)) bD<|zK<|aJ<|al<|zP 1 [yH [(3,yV (ai (x.kind-1))),(4,yV (ab (u8 (x.kind-1)))),(7,yE [(5,5)] (iU (o) (u8 (x.kind-1)) (x.num) ag))]] [.aa [4,21,16,7,6,3,1] [45,5,3]] [yN (x.kind-1),yI (ji (x.kind-1)),yI (iU o (u8 (x.kind-1)) x.num ag)]<|zR (zG [] [yB (aj (o++cQ (u8 (x.kind-1)) x.num)=aj (o++kb x)) (by rw [e]),yR (aj [])])
 ·have e:kb x=cQ (u8 (x.kind-1)) (u64 x.cL.length)++x.cL:=if_pos ag
  have hl:=my (u8 (x.kind-1)) (u64 x.cL.length)
  have hb:(aj (o++cQ (u8 (x.kind-1)) (u64 x.cL.length))).length≤900009:=by rw [aB,List.length_append];omega
  have sd:(aj x.cL.toArray.toList).length≤10000:=by rw [aB];exact hd
  refine nC Tryz.func128 46<|zq<|zS<|zq<|zB 0<|zP 1 [{}] [.aa [7,6,4,3,0,1] [3,5]] []<|bk 7 (x.kind == (7:Int)) bD<|zq<|bk 16 (x.kind == (8:Int)) bD<|zS<|zP 1 [{}] [.aa [21,16,7,6,4,3,0,1] [3,5]] []<|dB 21 (x.kind == (3:Int)) eJ<|a_<|dB 21 (x.kind == (3:Int)) eJ<|zP 2 [yH [(3,yV (ai (x.kind-1))),(4,yV (ab (u8 (x.kind-1)))),(7,yV (ai (↑x.cL.length:Int))),(8,yV (aw (u64 (↑x.cL.length:Int)))),(9,yE [(5,5)] (iU (o) (u8 (x.kind-1)) (u64 (↑x.cL.length:Int)) ag))],yH [(3,{av:=some (AV.arr (aj (o++cQ (u8 (x.kind-1)) (u64 (↑x.cL.length:Int))++x.cL.toArray.toList))),b:=false})]] [.aa [4,21,16,7,6,3,1] [37,5,3]] [yN (x.kind-1),yI (ji (x.kind-1)),yR (ai (↑x.cL.length:Int)),yI (a7 ((↑x.cL.length:Int))),yI (iU o (u8 (x.kind-1)) (u64 (↑x.cL.length:Int)) ag),yB (aj (o++cQ (u8 (x.kind-1)) (u64 (↑x.cL.length:Int)))++aj x.cL.toArray.toList=aj (o++cQ (u8 (x.kind-1)) (u64 (↑x.cL.length:Int))++x.cL.toArray.toList)) (db _ _),yB (cp (aj x.cL.toArray.toList)) (gi _),yO (((aj (o++cQ (u8 (x.kind-1)) (u64 (↑x.cL.length:Int)))).length+(aj x.cL.toArray.toList).length)*1≤140737488355328)]<|zR<|bc<|aK (zG [] [yB (aj (o++cQ (u8 (x.kind-1)) (u64 (↑x.cL.length:Int))++x.cL.toArray.toList)=aj (o++kb x)) (by rw [e];simp),yR (aj [])])
 ·have e:kb x=cQ (u8 (x.kind-1)) (u64 x.cL.length)++x.cL:=if_pos ag
  have hl:=my (u8 (x.kind-1)) (u64 x.cL.length)
  have hb:(aj (o++cQ (u8 (x.kind-1)) (u64 x.cL.length))).length≤900009:=by rw [aB,List.length_append];omega
  have sd:(aj x.cL.toArray.toList).length≤10000:=by rw [aB];exact hd
  refine nC Tryz.func128 46<|zq<|zS<|zq<|zB 0<|zP 1 [{}] [.aa [7,6,4,3,0,1] [3,5]] []<|bk 7 (x.kind == (7:Int)) bD<|zq<|bk 16 (x.kind == (8:Int)) bD<|zS<|zP 1 [{}] [.aa [21,16,7,6,4,3,0,1] [3,5]] []<|bk 21 (x.kind == (3:Int)) bD<|zX {} []<|al<|dB 21 (x.kind == (4:Int)) eJ<|zP 2 [yH [(3,yV (ai (x.kind-1))),(4,yV (ab (u8 (x.kind-1)))),(7,yV (ai (↑x.cL.length:Int))),(8,yV (aw (u64 (↑x.cL.length:Int)))),(9,yE [(5,5)] (iU (o) (u8 (x.kind-1)) (u64 (↑x.cL.length:Int)) ag))],yH [(3,{av:=some (AV.arr (aj (o++cQ (u8 (x.kind-1)) (u64 (↑x.cL.length:Int))++x.cL.toArray.toList))),b:=false})]] [.aa [4,21,16,7,6,3,1] [37,5,3]] [yN (x.kind-1),yI (ji (x.kind-1)),yR (ai (↑x.cL.length:Int)),yI (a7 ((↑x.cL.length:Int))),yI (iU o (u8 (x.kind-1)) (u64 (↑x.cL.length:Int)) ag),yB (aj (o++cQ (u8 (x.kind-1)) (u64 (↑x.cL.length:Int)))++aj x.cL.toArray.toList=aj (o++cQ (u8 (x.kind-1)) (u64 (↑x.cL.length:Int))++x.cL.toArray.toList)) (db _ _),yB (cp (aj x.cL.toArray.toList)) (gi _),yO (((aj (o++cQ (u8 (x.kind-1)) (u64 (↑x.cL.length:Int)))).length+(aj x.cL.toArray.toList).length)*1≤140737488355328)]<|zR<|bc<|aK (zG [] [yB (aj (o++cQ (u8 (x.kind-1)) (u64 (↑x.cL.length:Int))++x.cL.toArray.toList)=aj (o++kb x)) (by rw [e];simp),yR (aj [])])
 ·have e:kb x=cQ (u8 (x.kind-1)) x.num:=if_neg ag
  refine nC Tryz.func128 46<|zq<|zS<|zq<|zB 0<|zP 1 [{}] [.aa [7,6,4,3,0,1] [3,5]] []<|bk 7 (x.kind == (7:Int)) bD<|zq<|bk 16 (x.kind == (8:Int)) bD<|zS<|zP 1 [{}] [.aa [21,16,7,6,4,3,0,1] [3,5]] []<|bk 21 (x.kind == (3:Int)) bD<|zX {} []<|al<|bk 21 (x.kind == (4:Int)) bD<|zK<|aJ<|al<|zP 1 [yH [(3,yV (ai (x.kind-1))),(4,yV (ab (u8 (x.kind-1)))),(7,yE [(5,5)] (iU (o) (u8 (x.kind-1)) (x.num) ag))]] [.aa [4,21,16,7,6,3,1] [45,5,3]] [yN (x.kind-1),yI (ji (x.kind-1)),yI (iU o (u8 (x.kind-1)) x.num ag)]<|zR (zG [] [yB (aj (o++cQ (u8 (x.kind-1)) x.num)=aj (o++kb x)) (by rw [e]),yR (aj [])])
def iu (l:List fS):List UInt8:=l.flatMap kb
def GX (l:List fS):List UInt8:=if fm l=0 then iu l else []
theorem Cb (x:fS):(kb x).length≤9+x.cL.length:=by
 unfold kb
 split
 ·have:=my (u8 (x.kind-1)) (u64 x.cL.length)
  rw [List.length_append];omega
 ·have:=my (u8 (x.kind-1)) x.num
  omega
theorem qW:∀ {l:List fS} {n:Nat},(∀x∈l,x.cL.length≤10000)->l.length≤n->(iu l).length≤10009*n
 | [],n,_,_=>Nat.zero_le _
 | x::l,n,h,hn=>by
  have ih:=qW (l:=l) (n:=n-1) (fun y hy=>h y (by simp [hy])) (by simp at hn;omega)
  have h1:=Cb x
  have h2:=h x (by simp)
  simp only [List.length_cons] at hn
  show (kb x++iu l).length≤_
  rw [List.length_append];omega
theorem DY (l:List fS) (hl:l.length≤50) (hk:∀x∈l,fg x.kind) (hd:∀x∈l,x.cL.length≤10000):bG Tryz.prog 77 [.sl 3 (af bp l)] (.cw [.own 1 (aj (GX l)),ai (fm l)]):=by
 have ud:(af bp l).length=l.length*3:=aE (e:=3) (fun _=>rfl) ..
 have Av:∀x∈l,x.cL.length≤1000000:=fun x hx=>by have:=hd x hx;omega
 by_cases h:fm l=0
 case neg =>
  have e:GX l= []:=if_neg h
  refine zO Tryz.func77 24<|zq<|zS<|zP 2 [yH [(1,yV (ai (fm l)))],yH [(1,yV (ao true))]] [.aa [11,4,3,2,0] []] [yI (i5 l ag hk Av),yB (ao (fm l != (0:Int))=ao true) (by simp [h])]<|zT 11<|zq<|dC (zV [yB (aj (GX l)= []) (by rw [e];rfl),yR (Value.int .i64 (fm l))])
 have e:GX l=iu l:=if_pos h
 refine zO Tryz.func77 24<|zq<|zS<|zP 2 [yH [(1,yV (ai (fm l)))],yH [(1,yV (ao false))]] [.aa [11,4,3,2,0] []] [yI (i5 l ag hk Av),yB (ao (fm l != (0:Int))=ao false) (by simp [h])]<|zF 11<|a_<|zq<|zS<|zQ 1 [yH [(1,{k:=l.length})]] [yI ud]<|zB 0 (zL (fun (i:Nat)=>(⟨[(14,ai (↑l.length:Int)),(13,AV.sl 3 (af bp l)),(11,ao false),(4,ai (fm l)),(3,ai 0),(2,AV.nil),(0,AV.sl 3 (af bp l)),(15,ai i),(5,AV.ref 21)],[(21,⟨1,true,false,aj (iu (l.take i))⟩)]⟩:AS)) (fun i=>(i≤l.length)) (fun i=>(l.length-i)) (0) ?_ (zW [.nil 5 21 1,.aa [14,13,11,4,3,2,0,15,5] [21]]) ?_)
 ·omega
 intro i hi
 have LH:(iu (l.take i)).length≤10009*i:=qW (fun x hx=>hd x (List.mem_of_mem_take hx)) (by rw [List.length_take];omega)
 refine zq<|zS (zD 16 ((↑i:Int)<(↑l.length:Int)) (fun h2=>?_) (fun h2=>?_))
 ·have dI:i<l.length:=ag
  have hm:l.getD i default∈l:=by rw [List.getD_eq_getElem?_getD,List.getElem?_eq_getElem dI];exact List.getElem_mem dI
  have QC:=hk _ hm
  have QL:=hd _ hm
  have es:iu (l.take i)++kb (l.getD i default)=iu (l.take (i+1)):=by
   rw [List.take_succ_eq_append_getElem dI]
   unfold iu
   rw [List.flatMap_append,List.getD_eq_getElem?_getD,List.getElem?_eq_getElem dI]
   simp
  refine a_<|zS<|zB 1<|zP 1 [yH [(0,{k:=i}),(1,yV (AV.agg (bp (l.getD i default))))]] [.aa [7,16,14,13,11,4,3,2,0,15,5] [7,21]] [yR (↑i:Int),yO (i*3<(af bp l).length),yu bp l i 0 3,yR 3,yL 3 3]<|zX (yH [(2,yE [(21,5)] (rk (iu (List.take i l)) (l.getD i default) QC ag QL))]) [yI (rk (iu (List.take i l)) (l.getD i default) QC ag QL)]<|aJ<|al<|zX (yH [(0,yV (ai ((↑i:Int)+1)))]) [yN ((↑i:Int)+1)] (aH (i+1) (by assumption) ag (eS [.aa [14,13,11,4,3,2,0,15,5] [21]] [] [21] [yB (aj (iu (List.take i l)++kb (l.getD i default))=aj (iu (List.take (i+1) l))) (congrArg aj es)]))
 ·have e2:i=l.length:=ag
  subst e2
  refine zE 0<|a6<|aM<|bm<|al<|zq<|zR (zV [yB (aj (iu (List.take l.length l))=aj (GX l)) (by rw [e,List.take_length]),yJ 0 (fm l) (by rw [h])])
def dQ (l:List fS):List AV:=[.sl 3 (af bp l)]
def aN (n:UInt64):fS:=⟨1,n,[]⟩
def cX (b:List UInt8):fS:=⟨4,0,b⟩
def fj (b:List UInt8):fS:=⟨3,0,b⟩
def bM (n:UInt64):fS:=⟨5,n,[]⟩
theorem dn (n:UInt64):bG Tryz.prog 75 [aw n] (.own 3 (af bp [aN n])):=by
 refine zO Tryz.func75 6<|zP 2 [{},{}] [.aa [2,0] [5]] []<|zR (bP)
theorem mf (b:List UInt8):bG Tryz.prog 122 [cV b] (.own 3 (af bp [cX b])):=by
 refine zO Tryz.func122 6<|zP 2 [{},{}] [.aa [2,0] [5]] []<|zR (bP)
theorem rj (b:List UInt8) (hb:b.length≤1000000):bG Tryz.prog 123 [.sl 1 (aj b)] (.own 3 (af bp [fj b])):=by
 refine zO Tryz.func123 7<|zP 2 [{},yH [(1,yV (cV b))]] [.aa [2,0] [6]] [yR (aj b)]<|zR (bP)
theorem E3 {l:List (List fS)} {i:Nat} (h:i<l.length):(af dQ l)[i]?=some (.sl 3 (af bp (l.getD i default))):=by
 have:=o7 (f:=dQ) (e:=1) (l:=l) (k:=i) (j:=0) (fun _=>rfl) h (c:=.sl 3 (af bp (l.getD i default))) rfl
 simpa using this
structure Kq (vs:List (List fS)):Prop where
 len:vs.length≤20
 each:∀v∈vs,v.length≤20
 kind:∀v∈vs,∀x∈v,fg x.kind
 cL:∀v∈vs,∀x∈v,x.cL.length≤10000
def pU (vs:List (List fS)) (i:Nat):Int:=fm (vs.getD i default)
theorem v8 (vs:List (List fS)) (hv:Kq vs):bG Tryz.prog 125 [.sl 1 (af dQ vs)] (ai (ff (pU vs) vs.length)):=by
 have Ve:=hv.len
 have ud:(af dQ vs).length=vs.length:=by rw [aE (e:=1) (fun _=>rfl)];omega
 refine zO Tryz.func125 18<|zq<|zS<|zQ 1 [yH [(1,{k:=(af dQ vs).length})]] [yR ((af dQ vs).length)]<|zB 0 (zL (fun (i:Nat)=>(⟨[(7,ai (↑(af dQ vs).length:Int)),(6,AV.sl 1 (af dQ vs)),(0,AV.sl 1 (af dQ vs)),(8,ai i)],[]⟩:AS)) (fun i=>(i≤vs.length∧ff (pU vs) i=0)) (fun i=>(vs.length-i)) (0) ?_ (zW [.aa [7,6,0,8] []]) ?_)
 ·exact ⟨ag,rfl⟩
 rintro i ⟨hi,h0⟩
 refine zq<|zS (zD 9 ((↑i:Int)<(↑(af dQ vs).length:Int)) (fun h=>?_) (fun h=>?_))
 ·have dI:i<vs.length:=ag
  have gM:=E3 dI
  have hm:vs.getD i default∈vs:=by rw [List.getD_eq_getElem?_getD,List.getElem?_eq_getElem dI];exact List.getElem_mem dI
  have he:=hv.each _ hm
  have hk:=hv.kind _ hm
  have Av:∀x∈vs.getD i default,x.cL.length≤1000000:=fun x hx=>by have:=hv.cL _ hm x hx;omega
  by_cases e:fm (vs.getD i default)=0
  ·have k2:ff (pU vs) (i+1)=0:=by show (if _ then _ else _)=_;rw [if_neg ag];exact e
   refine a_<|zS<|zB 1<|zP 3 [yH [(0,{k:=i}),(1,yV (AV.sl 3 (af bp (vs.getD i default))))],yH [(1,yV (ai (fm (vs.getD i default))))],{}] [.aa [15,5,4,9,7,6,0,8] []] [yR (↑i:Int),yO (i<(af dQ vs).length),yI gM,yI (i5 (vs.getD i default) ag hk Av)]<|bk 15 (fm (vs.getD i default) != (0:Int)) (by simp_all)<|zK<|aJ<|al<|zX (yH [(0,yV (ai ((↑i:Int)+1)))]) [yN ((↑i:Int)+1)] (aH (i+1) ⟨ag,k2⟩ ag (zW [.aa [7,6,0,8] []]))
  ·have k2:ff (pU vs) (i+1)=pU vs i:=by show (if _ then _ else _)=_;rw [if_neg ag]
   have k3:=lN (E:=pU vs) e k2 vs.length ag
   refine a_<|zS<|zB 1<|zP 3 [yH [(0,{k:=i}),(1,yV (AV.sl 3 (af bp (vs.getD i default))))],yH [(1,yV (ai (fm (vs.getD i default))))],{}] [.aa [15,5,4,9,7,6,0,8] []] [yR (↑i:Int),yO (i<(af dQ vs).length),yI gM,yI (i5 (vs.getD i default) ag hk Av)]<|dB 15 (fm (vs.getD i default) != (0:Int)) (by simp_all)<|zq<|zR<|bc<|aK<|dN<|bc<|aK (zV [yJ (fm (vs.getD i default)) (ff (pU vs) vs.length) (by rw [k3])])
 ·have e:i=vs.length:=ag
  subst e
  refine zE 0<|a6<|aM<|bm<|al<|zq<|zR (zV [yJ 0 (ff (pU vs) vs.length) (by rw [h0])])
theorem Ck (l:List fS) (e:fm l=0) (hl:l.length≤500) (hk:∀x∈l,fg x.kind) (Av:∀x∈l,x.cL.length≤1000000):bG Tryz.prog 126 [.sl 3 (af bp l)] (.cw [.sl 3 (af bp l),ai 0]):=by
 refine zO Tryz.func126 11<|zq<|zS<|zP 2 [yH [(1,yV (ai (fm l)))],yH [(1,yV (ao false))]] [.aa [8,4,3,2,0] []] [yI (i5 l hl hk Av),yB (ao (fm l != (0:Int))=ao false) (by simp [e])]<|zF 8<|a_<|zq<|zR (bP)
def p9 (vs:List (List fS)):List fS:=bM (u64 vs.length)::vs.flatten
theorem E4 {vs:List (List fS)} (hv:Kq vs):∀x∈p9 vs,fg x.kind∧x.cL.length≤10000:=by
 intro x hx
 rcases List.mem_cons.1 hx with rfl|hx
 ·exact ⟨.inr (.inr (.inr rfl)),Nat.zero_le _⟩
 ·obtain ⟨v,hm,O5⟩:=List.mem_flatten.1 hx
  exact ⟨hv.kind v hm x O5,hv.cL v hm x O5⟩
theorem ze:∀ {vs:List (List fS)} {n:Nat},(∀v∈vs,v.length≤20)->vs.length≤n->vs.flatten.length≤20*n
 | [],n,_,_=>Nat.zero_le _
 | v::vs,n,h,hn=>by
  simp only [List.length_cons] at hn
  have ih:=ze (vs:=vs) (n:=n-1) (fun y hy=>h y (by simp [hy])) ag
  have h1:=h v (by simp)
  rw [List.flatten_cons,List.length_append];omega
theorem xD (x:fS):cp (bp x):=dr rfl
theorem sF (vs:List (List fS)) (hv:Kq vs) (hf:ff (pU vs) vs.length=0) (e:fm (p9 vs)=0):bG Tryz.prog 76 [.sl 1 (af dQ vs)] (.cw [.sl 3 (af bp (p9 vs)),ai 0]):=by
 have Ve:=hv.len
 have ud:(af dQ vs).length=vs.length:=by rw [aE (e:=1) (fun _=>rfl)];omega
 have wN:=ze (vs:=vs) (n:=20) hv.each Ve
 have TH:(p9 vs).length≤500:=by show vs.flatten.length+1≤_;omega
 have XK:∀x∈p9 vs,fg x.kind:=fun x hx=>(E4 hv x hx).1
 have XL:∀x∈p9 vs,x.cL.length≤1000000:=fun x hx=>by have:=(E4 hv x hx).2;omega
 refine zO Tryz.func76 35<|zq<|zS<|zP 2 [yH [(1,yC (v8 (vs) hv))],yH [(1,yV (ao false))]] [.aa [11,4,3,2,0] []] [yI (v8 vs hv),yB (ao (ff (pU vs) vs.length != (0:Int))=ao false) (by simp [hf])]<|zF 11<|a_<|zP 1 [yH [(1,{k:=(af dQ vs).length}),(2,yV (aw (u64 (↑(af dQ vs).length:Int))))]] [.aa [5,11,4,3,2,0] [17]] [yR ((af dQ vs).length),yI (a7 (↑(af dQ vs).length:Int))]<|zS<|zQ 1 [yH [(1,{k:=(af dQ vs).length})]] [yR ((af dQ vs).length)]<|zB 0 (zL (fun (i:Nat)=>(⟨[(19,ai (↑(af dQ vs).length:Int)),(18,AV.sl 1 (af dQ vs)),(11,ao false),(4,ai (ff (pU vs) vs.length)),(3,ai 0),(2,AV.nil),(0,AV.sl 1 (af dQ vs)),(20,ai i),(5,AV.ref 29)],[(29,⟨3,true,false,af bp (bM (u64 vs.length)::(vs.take i).flatten)⟩)]⟩:AS)) (fun i=>(i≤vs.length)) (fun i=>(vs.length-i)) (0) ?_ (eS [.uX 17 29,.loose 29,.aa [19,18,11,4,3,2,0,20,5] [29]] [] [29] [yB ([ai 5,aw (u64 (↑(af dQ vs).length:Int)),AV.val (Value.string (ByteArray.mk #[]))]=af bp (bM (u64 (↑vs.length:Int))::(List.take 0 vs).flatten)) (by rw [ud];rfl)]) ?_)
 ·omega
 intro i hi
 have XI:=ze (vs:=vs.take i) (n:=20) (fun v hm=>hv.each v (List.mem_of_mem_take hm)) (by rw [List.length_take];omega)
 have Pb:(af bp (bM (u64 vs.length)::(vs.take i).flatten)).length≤1203:=by rw [aE (e:=3) (fun _=>rfl),List.length_cons];omega
 have Lz:(bM (u64 vs.length)::(vs.take i).flatten).length≤401:=by rw [List.length_cons];omega
 refine zq<|zS (zD 21 ((↑i:Int)<(↑(af dQ vs).length:Int)) (fun h=>?_) (fun h=>?_))
 ·have dI:i<vs.length:=ag
  have gM:=E3 dI
  have hm:vs.getD i default∈vs:=by rw [List.getD_eq_getElem?_getD,List.getElem?_eq_getElem dI];exact List.getElem_mem dI
  have he:=hv.each _ hm
  have LH:(af bp (vs.getD i default)).length≤60:=by rw [aE (e:=3) (fun _=>rfl)];omega
  have es:af bp (bM (u64 vs.length)::(vs.take i).flatten)++af bp (vs.getD i default)=af bp (bM (u64 vs.length)::(vs.take (i+1)).flatten):=by
   have ef:(vs.take (i+1)).flatten=(vs.take i).flatten++vs.getD i default:=by
    rw [List.take_succ_eq_append_getElem dI,List.flatten_append,List.getD_eq_getElem?_getD,List.getElem?_eq_getElem dI]
    simp
   rw [fb,ef];rfl
  refine a_<|zS<|zB 1<|zP 1 [yH [(0,{k:=i}),(1,yV (AV.sl 3 (af bp (vs.getD i default))))]] [.aa [7,21,19,18,11,4,3,2,0,20,5] [29]] [yR (↑i:Int),yO (i<(af dQ vs).length),yI gM]<|zS<|zP 1 [yH [(1,{k:=(bM (u64 (↑vs.length:Int))::(List.take i vs).flatten).length})]] [.aa [26,7,21,19,18,11,4,3,2,0,20,5] [29]] [yB ((af bp (bM (u64 (↑vs.length:Int))::(List.take i vs).flatten)).length=(bM (u64 (↑vs.length:Int))::(List.take i vs).flatten).length*3) (by simp only [aE (f:=bp) (e:=3) (fun _=>rfl)])]<|dF 26 ((↑(bM (u64 (↑vs.length:Int))::(List.take i vs).flatten).length:Int)>512)<|a_<|zX (yH [(2,{b:=false})]) [yB (cp (af bp (vs.getD i default))) (dm (fun x=>xD x) _),yO (((af bp (bM (u64 (↑vs.length:Int))::(List.take i vs).flatten)).length+(af bp (vs.getD i default)).length)*32≤422212465065984)]<|aJ<|al<|zX (yH [(0,yV (ai ((↑i:Int)+1)))]) [yN ((↑i:Int)+1)] (aH (i+1) (by assumption) ag (eS [.aa [19,18,11,4,3,2,0,20,5] [29]] [] [29] [yI es]))
 ·have e2:i=vs.length:=ag
  subst e2
  rw [List.take_length]
  refine zE 0<|a6<|aM<|bm<|al<|zP 1 [yH [(1,{av:=some (AV.cw [AV.sl 3 (af bp (bM (u64 (↑vs.length:Int))::vs.flatten)),ai 0]),b:=false})]] [.aa [3,2,21,19,18,11,4,0,20,5] []] [yI (Ck (bM (u64 (↑vs.length:Int))::vs.flatten) (by assumption) (by assumption) (by assumption) (by assumption))]<|zR (bP)
structure fk (x:fS):Prop where
 kind:x.kind=1∨x.kind=3∨x.kind=4
 Vo:ik x=true
 cL:x.cL.length≤1024
 acc:ru x=0
theorem fk.uint (n:UInt64):fk (aN n):=⟨.inl rfl,rfl,Nat.zero_le _,rfl⟩
theorem fk.byte {b:List UInt8} (h:b.length≤1024):fk (fj b):=⟨.inr (.inl rfl),rfl,h,rfl⟩
theorem fk.text {b:List UInt8} (h:b.length≤1024) (hv:Lib.validD b=true):fk (cX b):=⟨.inr (.inr rfl),rfl,h,by
 unfold ru
 rw [if_neg]
 rintro ⟨-,q⟩
 have q:Lib.validD b=false:=q
 rw [hv] at q;cases q⟩
theorem tZ {fr:List Int} {c:Nat} {x:fS} (h:fk x) (h1:c=0∨fr.length≠0) (h2:c<512) (h3:fr.length≤8):nF fr c x=0:=by
 have hk:=h.kind
 have ha:gy c fr.length x.kind=0:=by unfold gy;rw [if_neg ag,if_neg ag,if_neg ag]
 have hd:=h.cL
 unfold nF
 rw [if_neg ag,if_neg ag,if_neg (by rw [h.Vo];decide),if_neg ag,if_neg ag]
 exact h.acc
theorem HN {x:fS} (h:fk x) (k:Int):nD [k] x=if k=1 then [] else [k-1]:=by
 have hk:=h.kind
 have hp:lY x (nj [k])= [k-1]:=by
  unfold lY
  rw [if_neg ag]
  rfl
 unfold nD
 rw [hp]
 unfold pO
 by_cases e:k=1
 ·subst e;rfl
 ·rw [if_neg e]
  have:lZ [k-1] 1=1:=by
   show (if ([k-1]:List Int).getD 0 0=0 then _ else _)=_
   rw [if_neg]
   show ¬(k-1=0)
   omega
  show List.take (lZ [k-1] 1) [k-1]=_
  rw [this];rfl
theorem KU {x:fS} (h:fk x):nD [] x= []:=by
 have hk:=h.kind
 unfold nD lY
 rw [if_neg ag]
 rfl
theorem EC {n:UInt64} (h:0<wv n):nD [] (bM n)= [wv n]:=by
 have hp:lY (bM n) (nj [])= [wv n]:=if_pos ⟨rfl,h⟩
 unfold nD
 rw [hp]
 have:lZ [wv n] 1=1:=by
  show (if ([wv n]:List Int).getD 0 0=0 then _ else _)=_
  rw [if_neg]
  show ¬(wv n=0)
  omega
 unfold pO
 show List.take (lZ [wv n] 1) [wv n]=_
 rw [this];rfl
theorem AF {x:fS} (h:fk x):fm [x]=0:=by
 have h0:vE [x] 0=0:=tZ h (.inl rfl) (by decide) (Nat.zero_le _)
 have hf:ff (vE [x]) 1=0:=by show (if _ then _ else _)=_;rw [if_neg (by show ¬(0:Int)≠0;decide)];exact h0
 have hv:vF [x] 1= []:=KU h
 unfold fm
 show (if ff (vE [x]) 1≠0 then ff (vE [x]) 1 else if 0<1∧(vF [x] 1).length=0 then 0 else 1)=(0:Int)
 rw [if_neg ag,if_pos ⟨by decide,by rw [hv];rfl⟩]
section
variable {n:UInt64} {xs:List fS} (hx:∀x∈xs,fk x) (hn:wv n=xs.length) (h1:1≤xs.length) (h2:xs.length≤100)
include hx hn h1 h2
theorem CB:∀j,j≤xs.length->vF (bM n::xs) (j+1)=if j=xs.length then [] else [(xs.length:Int)-j]
 | 0,_=>by
  rw [if_neg ag]
  show nD [] (bM n)=_
  rw [EC ag,hn];simp
 | j+1,hj=>by
  have ih:=CB j ag
  rw [if_neg ag] at ih
  have hm:(bM n::xs).getD (j+1) default∈xs:=by
   show xs.getD j default∈xs
   rw [List.getD_eq_getElem?_getD,List.getElem?_eq_getElem ag];exact List.getElem_mem ag
  show nD (vF (bM n::xs) (j+1)) ((bM n::xs).getD (j+1) default)=_
  rw [ih,HN (hx _ hm)]
  by_cases e:j+1=xs.length
  ·rw [if_pos ag,if_pos e]
  ·rw [if_neg ag,if_neg e]
   congr 1
   omega
theorem Nc (j:Nat) (hj:j≤xs.length):vE (bM n::xs) j=0:=by
 cases j with
 | zero =>
  show nF [] 0 (bM n)=0
  unfold nF
  rw [if_neg ag,if_neg (by show ¬gy 0 0 5≠0;decide),if_neg (by show ¬ik (bM n)=false;have:ik (bM n)=true:=rfl;rw [this];decide),if_neg (by show ¬1024<0;decide),if_neg (by rintro ⟨-,q⟩;have q:512<wv n:=q;omega)]
  rfl
 | succ j =>
  have hm:(bM n::xs).getD (j+1) default∈xs:=by
   show xs.getD j default∈xs
   rw [List.getD_eq_getElem?_getD,List.getElem?_eq_getElem ag];exact List.getElem_mem ag
  have e:=CB hx hn h1 h2 j ag
  rw [if_neg ag] at e
  show nF (vF (bM n::xs) (j+1)) (j+1) ((bM n::xs).getD (j+1) default)=0
  rw [e]
  exact tZ (hx _ hm) (.inr (by simp)) ag (by simp)
theorem JB:∀j,j≤xs.length+1->ff (vE (bM n::xs)) j=0
 | 0,_=>rfl
 | j+1,hj=>by
  show (if _ then _ else _)=_
  rw [if_neg (by rw [JB j ag];decide)]
  exact Nc hx hn h1 h2 j ag
theorem Et:fm (bM n::xs)=0:=by
 have hf:=JB hx hn h1 h2 (xs.length+1) (Nat.le_refl _)
 have hv:=CB hx hn h1 h2 xs.length (Nat.le_refl _)
 rw [if_pos rfl] at hv
 unfold fm
 show (if ff (vE (bM n::xs)) (xs.length+1)≠0 then _ else if 0<xs.length+1∧(vF (bM n::xs) (xs.length+1)).length=0 then 0 else 1)=(0:Int)
 rw [if_neg ag,if_pos ⟨ag,by rw [hv];rfl⟩]
end
theorem pP {xs:List fS} (hx:∀x∈xs,fk x) (h1:1≤xs.length) (h2:xs.length≤20):Kq (xs.map fun x=>[x])∧ff (pU (xs.map fun x=>[x])) (xs.map fun x=>[x]).length=0∧fm (p9 (xs.map fun x=>[x]))=0∧p9 (xs.map fun x=>[x])=bM (u64 xs.length)::xs:=by
 have wN:(xs.map fun x=>[x]).flatten=xs:=by
  clear hx h1 h2
  induction xs with
  | nil=>rfl
  | cons x l ih=>rw [List.map_cons,List.flatten_cons,ih];rfl
 have ha:p9 (xs.map fun x=>[x])=bM (u64 xs.length)::xs:=by unfold p9;rw [wN,List.length_map]
 have r6:∀v∈xs.map fun x=>[x],∃x∈xs,v= [x]:=fun v hv=>by
  obtain ⟨x,hm,e⟩:=List.mem_map.1 hv
  exact ⟨x,hm,e.symm⟩
 refine ⟨⟨by rw [List.length_map];exact h2,fun v hv=>?_,fun v hv x O5=>?_,fun v hv x O5=>?_⟩,?_,?_,ha⟩
 ·obtain ⟨x,-,rfl⟩:=r6 v hv;simp
 ·obtain ⟨y,hy,rfl⟩:=r6 v hv
  have:=List.mem_singleton.1 O5
  subst this
  rcases (hx _ hy).kind with q|q|q
  ·exact .inl q
  ·exact .inr (.inl q)
  ·exact .inr (.inr (.inl q))
 ·obtain ⟨y,hy,rfl⟩:=r6 v hv
  have:=List.mem_singleton.1 O5
  subst this
  have:=(hx _ hy).cL
  omega
 ·have:∀j,j≤(xs.map fun x=>[x]).length->ff (pU (xs.map fun x=>[x])) j=0:=by
   intro j
   induction j with
   | zero=>intro _;rfl
   | succ j ih =>
    intro hj
    show (if _ then _ else _)=_
    rw [if_neg (by rw [ih ag];decide)]
    have Cv:j<xs.length:=by rw [List.length_map] at hj;omega
    show fm ((xs.map fun x=>[x]).getD j default)=0
    rw [List.getD_eq_getElem?_getD,List.getElem?_map,List.getElem?_eq_getElem Cv]
    exact AF (hx _ (List.getElem_mem Cv))
  exact this _ (Nat.le_refl _)
 ·rw [ha]
  refine Et hx ?_ h1 ag
  rw [rD];omega
def lU:List Int->Nat->List fS->Option (List Int)
 | fr,_,[]=>some fr
 | fr,c,x::l=>if nF fr c x=0 then lU (nD fr x) (c+1) l else none
theorem nS:∀(l m:List fS) (fr:List Int) (c:Nat),lU fr c (l++m)=(lU fr c l).bind fun f=>lU f (c+l.length) m
 | [],m,fr,c=>rfl
 | x::l,m,fr,c=>by
  show (if nF fr c x=0 then lU (nD fr x) (c+1) (l++m) else none)=(if nF fr c x=0 then lU (nD fr x) (c+1) l else none).bind _
  split
  ·rw [nS l m,show c+1+l.length=c+(x::l).length by rw [List.length_cons];omega]
  ·rfl
theorem EF (l:List fS):∀n,n≤l.length-> ∀fr,lU [] 0 (l.take n)=some fr->vF l n=fr∧ff (vE l) n=0
 | 0,_,fr,h=>⟨by injection h,rfl⟩
 | n+1,hn,fr,h=>by
  have e:l.take (n+1)=l.take n++ [l.getD n default]:=by
   rw [List.take_add_one,List.getD_eq_getElem?_getD,List.getElem?_eq_getElem ag];rfl
  rw [e,nS] at h
  cases h1:lU [] 0 (l.take n) with
  | none=>rw [h1] at h;cases h
  | some g =>
   obtain ⟨i1,i2⟩:=EF l n ag g h1
   rw [h1] at h
   have h:(if nF g (0+(l.take n).length) (l.getD n default)=0 then some (nD g (l.getD n default)) else none)=some fr:=h
   rw [List.length_take,Nat.min_eq_left ag,Nat.zero_add] at h
   split at h
   ·rename_i q
    injection h with h
    exact ⟨by show nD (vF l n) _=_;rw [i1,h],by show (if _ then _ else _)=_;rw [if_neg ag];show nF (vF l n) n _=0;rw [i1];exact q⟩
   ·cases h
theorem KR {l:List fS} (h0:0<l.length) (h:lU [] 0 l=some []):fm l=0:=by
 obtain ⟨h1,h2⟩:=EF l l.length (Nat.le_refl _) [] (by rw [List.take_length];exact h)
 unfold fm
 rw [if_neg ag,if_pos ⟨h0,by rw [h1];rfl⟩]
theorem sf (f:List Int) (k:Int):(f++ [k]).getD ((f++ [k]).length-1) 0=k:=by
 rw [List.length_append,show f.length+ [k].length-1=f.length from Nat.add_sub_cancel ..]
 simp [List.getD_eq_getElem?_getD]
theorem x6 (f:List Int) (k:Int):nj (f++ [k])=f++ [k-1]:=by
 unfold nj
 rw [if_neg (by simp),sf,List.length_append,show f.length+ [k].length-1=f.length from Nat.add_sub_cancel ..]
 simp
theorem rQ (f:List Int) {k:Int} (h:k≠0):pO (f++ [k])=f++ [k]:=by
 unfold pO
 have:lZ (f++ [k]) (f++ [k]).length=(f++ [k]).length:=by
  rw [show (f++ [k]).length=f.length+1 by simp]
  show (if (f++ [k]).getD f.length 0=0 then _ else _)=_
  have:=sf f k
  rw [show (f++ [k]).length-1=f.length by simp] at this
  rw [this,if_neg h]
 rw [this,List.take_length]
theorem Bl (f g:List Int):∀n,n≤f.length->lZ (f++g) n=lZ f n
 | 0,_=>rfl
 | n+1,h=>by
  show (if (f++g).getD n 0=0 then lZ (f++g) n else n+1)=(if f.getD n 0=0 then lZ f n else n+1)
  rw [Bl f g n ag,List.getD_eq_getElem?_getD,List.getD_eq_getElem?_getD,List.getElem?_append_left ag]
theorem EN (f:List Int):∀n,lZ f n≤n
 | 0=>Nat.le_refl _
 | n+1=>by
  show (if f.getD n 0=0 then lZ f n else n+1)≤_
  split
  ·have:=EN f n;omega
  ·exact Nat.le_refl _
theorem Gd (f:List Int):pO (f++ [0])=pO f:=by
 unfold pO
 have:lZ (f++ [0]) (f++ [0]).length=lZ f f.length:=by
  rw [show (f++ [(0:Int)]).length=f.length+1 by simp]
  show (if (f++ [(0:Int)]).getD f.length 0=0 then lZ (f++ [0]) f.length else _)=_
  have:=sf f 0
  rw [show (f++ [(0:Int)]).length-1=f.length by simp] at this
  rw [if_pos this,Bl f [0] _ (Nat.le_refl _)]
 rw [this,List.take_append_of_le_length (EN f _)]
theorem EB {x:fS} (h:fk x) (f:List Int) (k:Int):nD (f++ [k]) x=if k=1 then pO f else f++ [k-1]:=by
 have hk:=h.kind
 unfold nD lY
 rw [if_neg ag,x6]
 by_cases e:k=1
 ·rw [if_pos e,e];exact Gd f
 ·rw [if_neg e];exact rQ f ag
theorem Nh (f:List Int) (k:Int) {n:UInt64} (h:0<wv n):nD (f++ [k]) (bM n)=f++ [k-1]++ [wv n]:=by
 unfold nD lY
 rw [if_pos ⟨rfl,h⟩,x6]
 have h':wv n≠0:=ag
 exact rQ _ h'
theorem IK {fr:List Int} {c:Nat} {n:UInt64} (h1:c=0∨fr.length≠0) (h2:c<512) (h3:fr.length≤8) (hn:wv n≤512):nF fr c (bM n)=0:=by
 have ha:gy c fr.length 5=0:=by unfold gy;rw [if_neg ag,if_neg ag,if_neg ag]
 unfold nF
 rw [if_neg ag,if_neg (by show ¬gy c fr.length 5≠0;omega),if_neg (by show ¬ik (bM n)=false;have:ik (bM n)=true:=rfl;rw [this];decide),if_neg (by show ¬1024<0;decide),if_neg (by rintro ⟨-,q⟩;have q:512<wv n:=q;omega)]
 rfl
theorem uS {f:List Int} (hf:f.length≤6):∀ {xs:List fS} {k:Int} {c:Nat},(∀x∈xs,fk x)->(xs.length:Int)<k->c+xs.length≤500->lU (f++ [k]) c xs=some (f++ [k-xs.length])
 | [],k,c,_,_,_=>by show some (f++ [k])=some (f++ [k-((0:Nat):Int)]);simp
 | x::xs,k,c,hx,hk,hc=>by
  have Pk:c+(xs.length+1)≤500:=hc
  have w8:((xs.length+1:Nat):Int)<k:=hk
  have hl:=hx x (List.mem_cons_self ..)
  show (if nF (f++ [k]) c x=0 then lU (nD (f++ [k]) x) (c+1) xs else none)=_
  rw [if_pos (tZ hl (.inr (by simp)) ag (by simp;omega)),EB hl,if_neg ag,uS hf (fun y hy=>hx y (List.mem_cons_of_mem _ hy)) ag ag]
  show some (f++ [k-1-(xs.length:Int)])=some (f++ [k-((xs.length+1:Nat):Int)])
  rw [show k-((xs.length+1:Nat):Int)=k-1-xs.length by omega]
theorem uT {f:List Int} (hf:f.length≤6):∀ {xs:List fS} {c:Nat},(∀x∈xs,fk x)->0<xs.length->c+xs.length≤500->lU (f++ [(xs.length:Int)]) c xs=some (pO f)
 | [],_,_,h,_=>by cases h
 | x::xs,c,hx,_,hc=>by
  have Pk:c+(xs.length+1)≤500:=hc
  have hl:=hx x (List.mem_cons_self ..)
  show (if nF (f++ [((xs.length+1:Nat):Int)]) c x=0 then lU (nD (f++ [((xs.length+1:Nat):Int)]) x) (c+1) xs else none)=_
  rw [if_pos (tZ hl (.inr (by simp)) ag (by simp;omega)),EB hl]
  by_cases e:xs.length=0
  ·rw [if_pos ag,List.eq_nil_of_length_eq_zero e];rfl
  ·rw [if_neg ag,show ((xs.length+1:Nat):Int)-1=xs.length by omega]
   exact uT hf (fun y hy=>hx y (List.mem_cons_of_mem _ hy)) ag ag
theorem xy {f:List Int} (hf:f.length≤4) {xs:List fS} {k:Int} {c:Nat} {n:UInt64} (hx:∀x∈xs,fk x) (hn:wv n=xs.length) (h1:0<xs.length) (hk:1<k) (hc:c+xs.length≤400):lU (f++ [k]) c (bM n::xs)=some (f++ [k-1]):=by
 show (if nF (f++ [k]) c (bM n)=0 then lU (nD (f++ [k]) (bM n)) (c+1) xs else none)=_
 rw [if_pos (IK (.inr (by simp)) ag (by simp;omega) ag),Nh _ _ ag,hn,uT (by simp;omega) hx h1 ag,rQ _ ag]
theorem HW {n:UInt64} (l:List fS) (h:0<wv n) (h2:wv n≤512):lU [] 0 (bM n::l)=lU ([]++ [wv n]) 1 l:=by
 show (if nF [] 0 (bM n)=0 then lU (nD [] (bM n)) 1 l else none)=_
 rw [if_pos (IK (.inl rfl) ag (by simp) h2),EC h];rfl
def ct (h:Int):Prop:=h<0∨4<h
instance (h:Int):Decidable (ct h):=inferInstanceAs (Decidable (_∨_))
theorem dw (h:Int):bG Tryz.prog 87 [ai h] (ao (decide (ct h))):=by
 by_cases h1:h<0
 ·have e:decide (ct h)=true:=decide_eq_true (.inl h1)
  refine zO Tryz.func87 9<|zP 2 [{},{}] [.aa [2,0] []] (yM 3 (yT (h<0)))<|zR (zV [yB (Value.bool true=Value.bool (decide (ct h))) (by rw [e])])
 ·by_cases h2:h>4
  ·have e:decide (ct h)=true:=decide_eq_true (.inr h2)
   refine zO Tryz.func87 9<|zP 2 [{},yH ([(5,{b:=false})]++yg [3,4])] [.aa [2,0] []] (yM 3 (yF (h<0)))<|zR (zV [yB (Value.bool (decide (h>4))=Value.bool (decide (ct h))) (by rw [e,decide_eq_true h2])])
  ·have e:decide (ct h)=false:=decide_eq_false (by rintro (h|h)<;>omega)
   refine zO Tryz.func87 9<|zP 2 [{},yH ([(5,{b:=false})]++yg [3,4])] [.aa [2,0] []] (yM 3 (yF (h<0)))<|zR (zV [yB (Value.bool (decide (h>4))=Value.bool (decide (ct h))) (by rw [e,decide_eq_false h2])])
theorem ba (h:Int):bG Tryz.prog 91 [ai h] (ao (!decide (ct h))):=by
 by_cases h1:h<0
 ·have e:decide (ct h)=true:=decide_eq_true (.inl h1)
  refine zO Tryz.func91 9<|zP 2 [{},yH ([(5,{b:=false})]++yg [3,4])] [.aa [2,0] []] (yM 3 (yF (h≥0)))<|zR (zV [yB (Value.bool false=Value.bool !decide (ct h)) (by rw [e];rfl)])
 ·by_cases h2:h>4
  ·have e:decide (ct h)=true:=decide_eq_true (.inr h2)
   refine zO Tryz.func91 9<|zP 2 [{},{}] [.aa [2,0] []] (yM 3 (yT (h≥0)))<|zR (zV [yB (Value.bool (decide (h≤4))=Value.bool !decide (ct h)) (by rw [e,decide_eq_false ag];rfl)])
  ·have e:decide (ct h)=false:=decide_eq_false (by rintro (h|h)<;>omega)
   refine zO Tryz.func91 9<|zP 2 [{},{}] [.aa [2,0] []] (yM 3 (yT (h≥0)))<|zR (zV [yB (Value.bool (decide (h≤4))=Value.bool !decide (ct h)) (by rw [e,decide_eq_true ag];rfl)])
def gC (h:Int):Int:=if ct h then 9 else 0
def d_ (h:Int) (r:UInt64):List UInt8:=if ct h then [] else u8 h::words [r]
def hY (lv:Int) (a b:UInt64):UInt64:=hash 3 (words [u64 lv,a,b])
theorem pQ (lv:Int) (a b:UInt64):bG Tryz.prog 144 [ai lv,aw a,aw b] (aw (hY lv a b)):=by
 refine zO Tryz.func144 14<|zP 2 [{},yH [(1,yV (aw (u64 lv))),(4,yV (AV.arr (ah [u64 lv,a,b]))),(5,yV (AV.own 1 (aj (words [u64 lv,a,b])))),(6,yV (aw (hash (3:Int) (words [u64 lv,a,b]))))]] [.aa [6,0,1,2] []] [yI (a7 lv),yR (ah [u64 lv,a,b]),yI (kE [u64 lv,a,b] (by simp only [List.length_cons,List.length_nil];omega)),yI (aV (words [u64 lv,a,b])),yI (oo ((3:Int)) (words [u64 lv,a,b]))]<|zR (bP)
theorem lW (lv:Int) (a b:UInt64):bG Tryz.prog 115 [ai lv,aw a,aw b] (aw (hY lv a b)):=by
 refine zO Tryz.func115 14<|zP 2 [{},yH [(1,yV (aw (u64 lv))),(4,yV (AV.arr (ah [u64 lv,a,b]))),(5,yV (AV.own 1 (aj (words [u64 lv,a,b])))),(6,yV (aw (hash (3:Int) (words [u64 lv,a,b]))))]] [.aa [6,0,1,2] []] [yI (a7 lv),yR (ah [u64 lv,a,b]),yI (dO [u64 lv,a,b] (by simp only [List.length_cons,List.length_nil];omega)),yI (aV (words [u64 lv,a,b])),yI (iQ ((3:Int)) (words [u64 lv,a,b]) (by simp only [List.length_cons,List.length_nil,eu];omega))]<|zR (bP)
def gp (seed:UInt64):Nat->Nat->UInt64
 | 0,i=>combine i (bK seed i 18)
 | lv+1,i=>hY ((lv+1:Nat):Int) (gp seed lv (2*i)) (gp seed lv (2*i+1))
theorem sV (seed:UInt64) (lv:Nat):∀(i:Nat),lv≤4->i<2^(40-lv)->bG Tryz.prog 103 [aw seed,ai lv,ai i] (aw (gp seed lv i)):=by
 induction lv with
 | zero =>
  intro i _ hi
  refine zO Tryz.func103 27<|zq<|zS<|zq<|dB 8 ((↑(0:Nat):Int) == (0:Int)) eJ<|zP 1 [yH [(2,yC (sW (seed) ((↑i:Int))))]] [.aa [6,8,0,1,2] []] [yI (sW seed ((↑i:Int)))]<|dC (bP)
 | succ lv ih =>
  intro i hl hi
  have e:2^(40-lv)=2*2^(40-(lv+1)):=by rw [show 40-lv=40-(lv+1)+1 by omega,Nat.pow_succ,Nat.mul_comm]
  have hp:2^(40-(lv+1))≤2^40:=Nat.pow_le_pow_right (by decide) ag
  obtain ⟨j,hj⟩:∃j:Nat,2*i=j:=⟨_,rfl⟩
  obtain ⟨j2,Cv⟩:∃j2:Nat,2*i+1=j2:=⟨_,rfl⟩
  have h1:=ih j ag ag
  have h2:=ih j2 ag ag
  clear ih
  generalize 2^(40-lv)=p1 at *
  generalize 2^(40-(lv+1))=p2 at *
  have ew:gp seed (lv+1) i=hY ((lv+1:Nat):Int) (gp seed lv j) (gp seed lv j2):=by rw [←hj,←Cv];rfl
  rw [ew]
  generalize gp seed lv j=n1 at *
  generalize gp seed lv j2=n2 at *
  have e1:IntKind.i64.wrap (((lv+1:Nat):Int)-1)=(lv:Int):=by rw [IntKind.wrap_i64];omega
  have e2:IntKind.i64.wrap (2*(i:Int))=(j:Int):=by rw [IntKind.wrap_i64];omega
  have e3:IntKind.i64.wrap ((j:Int)+1)=(j2:Int):=by rw [IntKind.wrap_i64];omega
  refine zO Tryz.func103 27<|zq<|zS<|zq<|bk 8 ((↑(lv+1):Int) == (0:Int)) bD<|a_<|zP 1 [yH [(3,yV (ai ↑lv)),(5,yV (ai ↑j)),(6,yC h1),(9,yV (ai ↑lv)),(11,yV (ai ↑j)),(12,yV (ai ↑j2)),(13,yC h2),(14,yV (aw (hY (↑(lv+1):Int) n1 n2)))]] [.aa [6,8,0,1,2] []] [yI (yc e1),yI (yc e2),yI h1,yI (yc e1),yI (yc e2),yI (yc e3),yI h2,yI (lW (↑(lv+1):Int) n1 n2)]<|zR (bP)
end Go.Proofs.YtjgbhhnghedgdaaGreatDoor
