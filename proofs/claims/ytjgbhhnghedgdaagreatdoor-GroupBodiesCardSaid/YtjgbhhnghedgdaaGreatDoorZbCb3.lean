import Derived.Test.YtjgbhhnghedgdaaGreatDoorZbCb2
set_option linter.all false
namespace Go.Proofs.YtjgbhhnghedgdaaGreatDoor
open Go.RowKit
set_option maxRecDepth 100000
set_option maxHeartbeats 4000000
instance:Inhabited fH:=⟨⟨0,0,[]⟩⟩
def vF (l:List fH):Nat->List Int
 | 0=>[]
 | n+1=>lS (vF l n) (l.getD n default)
def vE (l:List fH) (i:Nat):Int:=mY (vF l i) i (l.getD i default)
def eU (l:List fH):Int:=if ff (vE l) l.length≠0 then ff (vE l) l.length else if 0<l.length∧(vF l l.length).length=0 then 0 else 1
theorem J4 (fr:List Int) (x:fH):(lS fr x).length≤fr.length+1:=by
 unfold lS o9
 have h:=Af x (mJ fr)
 rw [Bg] at h
 rw [List.length_take];omega
theorem GL (l:List fH):∀n,(vF l n).length≤n
 | 0=>Nat.le_refl _
 | n+1=>by
  have:=GL l n
  have:=J4 (vF l n) (l.getD n default)
  show (lS _ _).length≤_
  omega
theorem Lz {l:List fH}:∀ {n:Nat},(∀j,j<n->(l.getD j default).kind=5->wv (l.getD j default).num≤512)-> ∀k∈vF l n,-(n:Int)≤k∧k≤512
 | 0,_,k,hk=>by cases hk
 | n+1,h,k,hk=>by
  have ih:=Lz (l:=l) (n:=n) (fun j hj=>h j aj)
  have h5:=h n aj
  have hk:k∈o9 (lB (l.getD n default) (mJ (vF l n))):=hk
  have hk:=List.mem_of_mem_take hk
  have hd:∀k∈mJ (vF l n),-((n+1:Nat):Int)≤k∧k≤512:=by
   intro k hk
   unfold mJ at hk
   split at hk
   ·have:=ih k hk;omega
   ·rename_i h0
    have hm:=ih ((vF l n).getD ((vF l n).length-1) 0) (by rw [List.getD_eq_getElem?_getD,List.getElem?_eq_getElem aj];exact List.getElem_mem aj)
    rcases List.mem_or_eq_of_mem_set hk with q|q
    ·have:=ih k q;omega
    ·omega
  unfold lB at hk
  split at hk
  ·rename_i hx
   rcases List.mem_append.1 hk with q|q
   ·exact hd k q
   ·have e:=List.mem_singleton.1 q
    have:=h5 hx.1
    omega
  ·exact hd k hk
theorem KD {fr:List Int} {c:Nat} {x:fH} (h:mY fr c x=0) (h5:x.kind=5):wv x.num≤512:=by
 apply Classical.byContradiction
 intro q
 unfold mY at h
 split at h
 ·omega
 ·split at h
  ·rename_i q2;exact q2 h
  ·split at h
   ·omega
   ·split at h
    ·omega
    ·rw [if_pos ⟨h5,aj⟩] at h;omega
theorem x7 {f:Nat->Int}:∀ {n:Nat},ff f n=0-> ∀j,j<n->f j=0
 | 0,_,j,hj=>by omega
 | n+1,h,j,hj=>by
  have h1:ff f n=0:=by
   apply Classical.byContradiction
   intro q
   have:ff f (n+1)=ff f n:=by show (if _ then _ else _)=_;rw [if_pos q]
   omega
  have h2:f n=0:=by
   have:ff f (n+1)=f n:=by show (if _ then _ else _)=_;rw [if_neg aj]
   omega
  by_cases e:j=n
  ·subst e;exact h2
  ·exact x7 h1 j aj
theorem iK (l:List fH) (hl:l.length≤500) (hk:∀x∈l,eO x.kind) (hd:∀x∈l,x.cD.length≤1000000):bL Tryz.prog 127 [.sl 3 (ae aT l)] (ai (eU l)):=by
 have uG:(ae aT l).length=l.length*3:=aG (e:=3) (fun _=>rfl) ..
 refine zO Tryz.func127 22<|zQ 2 [{},{}] []<|bf.oQ (bS.Lm 3 0 99 3 (r:=⟨1,false,true,[.nil,ai 0]⟩) bk rfl rfl bk)<|zS<|zQ 1 [yH [(1,{k:=l.length})]] [yI uG]<|zB 0 (zL (fun (i:Nat)=>(⟨[(8,ai (↑l.length:Int)),(7,AV.sl 3 (ae aT l)),(3,AV.addr 3 0),(0,AV.sl 3 (ae aT l)),(9,ai i)],[(3,⟨1,false,true,[.ref 99,ai i]⟩),(99,⟨3,true,false,ae bh (vF l i)⟩)]⟩:AS)) (fun i=>(i≤l.length∧ff (vE l) i=0)) (fun i=>(l.length-i)) (0) ?_ (zW [.aa [8,7,3,0,9] [3,99]]) ?_)
 ·exact ⟨aj,rfl⟩
 rintro i ⟨hi,h0⟩
 have sG:=GL l i
 have gj:=x7 h0
 have m_:=Lz (l:=l) (n:=i) (fun j hj h5=>KD (gj j hj) h5)
 have gy:∀k∈vF l i,-1000≤k∧k≤1000:=fun k hm=>by have:=m_ k hm;omega
 have PI:(vF l i).length≤1000:=aj
 clear gj m_ sG
 refine zq<|zS (zD 10 ((↑i:Int)<(↑l.length:Int)) (fun h=>?_) (fun h=>?_))
 ·have dM:i<l.length:=aj
  have hm:l.getD i default∈l:=by rw [List.getD_eq_getElem?_getD,List.getElem?_eq_getElem dM];exact List.getElem_mem dM
  have QD:=hk _ hm
  have QI:=hd _ hm
  by_cases e:mY (vF l i) i (l.getD i default)=0
  ·have dS:=Ft (vF l i) i (l.getD i default) e QD PI gy aj QI
   have k2:ff (vE l) (i+1)=0:=by show (if _ then _ else _)=_;rw [if_neg aj];exact e
   refine a_<|zS<|zB 1<|zP 3 [yH [(0,{k:=i}),(1,yV (AV.agg (aT (l.getD i default))))],yH [(1,{av:=some (ai 0),ln:=[(3,1000000000000),(99,5)],ho:=[(1000000000000,Row.mk 1 false true [AV.ref 5,ai (↑(i+1):Int)]),(5,Row.mk 3 true false (ae bh (lS (vF l i) (l.getD i default))))]})],{}] [.aa [16,6,5,10,8,7,3,0,9] [3,99,5]] [yR (↑i:Int),yO (i*3<(ae aT l).length),yB (List.take 3 (List.drop (i*3) (ae aT l))=(aT (l.getD i default))) (dr (f:=aT) (e:=3) (k:=i) (j:=0) (fun _=>rfl) aj (by decide) rfl),yR 3,yL 3 3,yI dS,yB ([AV.ref 99,ai ↑i].length= [AV.ref 5,ai (↑(i+1):Int)].length∧0< [AV.ref 5,ai (↑(i+1):Int)].length) ⟨rfl,Nat.succ_pos _⟩]<|zF 16<|zK<|aL<|aq<|zX (yH [(0,yV (ai ((↑i:Int)+1)))]) [yN ((↑i:Int)+1)] (aK (i+1) ⟨aj,k2⟩ aj (zW [.aa [8,7,3,0,9] [3,99]]))
  ·have dS:=Ci (vF l i) i (l.getD i default) e QD PI aj QI
   have k2:ff (vE l) (i+1)=vE l i:=by show (if _ then _ else _)=_;rw [if_neg aj]
   have k3:=lg (E:=vE l) e k2 l.length aj
   have k4:eU l=mY (vF l i) i (l.getD i default):=by unfold eU;rw [if_pos (by rw [k3];exact e),k3]
   refine a_<|zS<|zB 1<|zP 3 [yH [(0,{k:=i}),(1,yV (AV.agg (aT (l.getD i default))))],yH [(1,{av:=some (ai (mY (vF l i) i (l.getD i default))),ln:=[(3,1000000000000),(99,5)],ho:=[(1000000000000,Row.mk 1 false true [AV.ref 5,ai ↑i]),(5,Row.mk 3 true false (ae bh (vF l i)))]})],{}] [.aa [16,6,5,10,8,7,3,0,9] [3,99,5]] [yR (↑i:Int),yO (i*3<(ae aT l).length),yB (List.take 3 (List.drop (i*3) (ae aT l))=(aT (l.getD i default))) (dr (f:=aT) (e:=3) (k:=i) (j:=0) (fun _=>rfl) aj (by decide) rfl),yR 3,yL 3 3,yI dS,yB ([AV.ref 99,ai ↑i].length= [AV.ref 5,ai ↑i].length∧0< [AV.ref 5,ai ↑i].length) (by simp [e])]<|dB 16 (mY (vF l i) i (l.getD i default) != (0:Int)) (by simp_all)<|zP 1 [{}] [.aa [2,16,6,5,10,8,7,3,0,9] [3,99,5]] []<|zR<|a6<|aI<|de<|a6<|aI (zV [yJ (mY (vF l i) i (l.getD i default)) (eU l) (by rw [k4])])
 ·have e:i=l.length:=aj
  subst e
  by_cases Oj:0<l.length∧(vF l l.length).length=0
  ·have k4:eU l=0:=by unfold eU;rw [if_neg aj,if_pos Oj]
   refine zE 0<|ba<|aS<|br<|aq<|zS<|zP 1 [yH [(1,{av:=some (ao (decide (0<l.length∧(vF l l.length).length=0))),ln:=[(3,1000000000000),(99,5)],ho:=[(1000000000000,Row.mk 1 false true [AV.ref 5,ai (↑l.length:Int)]),(5,Row.mk 3 true false (ae bh (vF l l.length)))]}),(2,yV (ao false))]] [.aa [21,10,8,7,3,0,9] [3,99]] [yB (dh Tryz.prog 163 [AV.addr 1000000000000 0] [(1000000000000,Row.mk 1 false true [AV.ref 5,ai (↑l.length:Int)]),(5,Row.mk 3 true false (ae bh (vF l l.length)))] (ao (decide (0<l.length∧(vF l l.length).length=0))) [(1000000000000,Row.mk 1 false true [AV.ref 5,ai (↑l.length:Int)]),(5,Row.mk 3 true false (ae bh (vF l l.length)))]) (f_ (vF l l.length) (l.length) aj),yB ([AV.ref 99,ai (↑l.length:Int)].length= [AV.ref 5,ai (↑l.length:Int)].length∧0< [AV.ref 5,ai (↑l.length:Int)].length) ⟨rfl,Nat.succ_pos _⟩,yB (ao (!decide (0<l.length∧(vF l l.length).length=0))=ao false) (by rw [decide_eq_true Oj];rfl)]<|zF 21<|a_<|zq<|zR (zV [yJ 0 (eU l) (by rw [k4])])
  ·have k4:eU l=1:=by unfold eU;rw [if_neg aj,if_neg Oj]
   refine zE 0<|ba<|aS<|br<|aq<|zS<|zP 1 [yH [(1,{av:=some (ao (decide (0<l.length∧(vF l l.length).length=0))),ln:=[(3,1000000000000),(99,5)],ho:=[(1000000000000,Row.mk 1 false true [AV.ref 5,ai (↑l.length:Int)]),(5,Row.mk 3 true false (ae bh (vF l l.length)))]}),(2,yV (ao true))]] [.aa [21,10,8,7,3,0,9] [3,99]] [yB (dh Tryz.prog 163 [AV.addr 1000000000000 0] [(1000000000000,Row.mk 1 false true [AV.ref 5,ai (↑l.length:Int)]),(5,Row.mk 3 true false (ae bh (vF l l.length)))] (ao (decide (0<l.length∧(vF l l.length).length=0))) [(1000000000000,Row.mk 1 false true [AV.ref 5,ai (↑l.length:Int)]),(5,Row.mk 3 true false (ae bh (vF l l.length)))]) (f_ (vF l l.length) (l.length) aj),yB ([AV.ref 99,ai (↑l.length:Int)].length= [AV.ref 5,ai (↑l.length:Int)].length∧0< [AV.ref 5,ai (↑l.length:Int)].length) ⟨rfl,Nat.succ_pos _⟩,yB (ao (!decide (0<l.length∧(vF l l.length).length=0))=ao true) (by rw [decide_eq_false Oj];rfl)]<|zT 21<|zq<|dn (zV [yJ 1 (eU l) (by rw [k4])])
def oR (n:UInt64) (s q:Nat):List UInt8:=(List.range q).map fun j=>(n>>>UInt64.ofNat (8*(s-1-j))).toUInt8
def bX (m:UInt8) (n:UInt64):List UInt8 :=
 if wv n<24 then [m<<<5+n.toUInt8] else if wv n<256 then (m<<<5+24)::oR n 1 1 else if wv n<65536 then (m<<<5+25)::oR n 2 2 else if wv n<4294967296 then (m<<<5+26)::oR n 4 4 else (m<<<5+27)::oR n 8 8
theorem DJ (n:UInt64) (s q:Nat):(oR n s q).length=q:=by simp [oR]
theorem GR (n:UInt64) (s q:Nat):oR n s (q+1)=oR n s q++ [(n>>>UInt64.ofNat (8*(s-1-q))).toUInt8]:=by
 unfold oR
 rw [List.range_succ,List.map_append];rfl
def Kb (o:List UInt8):List (Nat×Row):=[(5,⟨1,true,false,ag o⟩)]
theorem oa (o:List UInt8) (m:UInt8) (n:UInt64) (ho:o.length≤1000000):dh Tryz.prog 164 [.ref 5,ab m,aw n] (Kb o) (.own 1 (ag (o++bX m n))) (Kb []):=by
 have AB:(ag o).length=o.length:=aA o
 have VR:=Lw n
 refine m6 Tryz.func164 58<|zP 3 [{},yH [(1,yV (ab (m<<<(5:UInt8))))],{}] [.aa [8,7,6,0,1,2] [5]] [yI (Ls m ((5:Int)) aj aj),yO ((0:Int)≤5)] ?_
 by_cases h1:wv n<24
 ·have e:bX m n= [m<<<5+n.toUInt8]:=if_pos h1
  refine zS<|zB 0<|zP 1 [{}] [.aa [14,8,7,6,0,1,2] [5]] []<|gU 14 (wv n<24)<|zP 1 [yH [(3,yV (ab n.toUInt8)),(4,yV (ab (m<<<(5:UInt8)+n.toUInt8))),(5,yV (AV.arr (ag [m<<<(5:UInt8)+n.toUInt8]))),(6,yV (AV.arr (ag (o++ [m<<<(5:UInt8)+n.toUInt8]))))]] [.aa [6,14,8,7,1,2] [23]] [yR (ab n.toUInt8),yR (ab (m<<<(5:UInt8)+n.toUInt8)),yR [ab (m<<<(5:UInt8)+n.toUInt8)],yB (ag o++ag [m<<<(5:UInt8)+n.toUInt8]=ag (o++ [m<<<(5:UInt8)+n.toUInt8])) (da _ _),yO (((ag o).length+1)*1≤140737488355328)]<|bf.oQ (bS.add 5 1 bk)<|zR<|a6<|aI (zG [] [yB (ag (o++ [m<<<(5:UInt8)+n.toUInt8])=ag (o++bX m n)) (by rw [e]),yB ([]=ag []) rfl])
 refine bf.oM (fun (t:UInt8×Nat)=>(⟨[(0,AV.ref 5),(1,ab m),(2,aw n),(7,ab t.1),(8,ai t.2)],[(5,⟨1,true,false,ag o⟩)]⟩:AS)) (fun t=>(bX m n=t.1::oR n t.2 t.2∧1≤t.2∧t.2≤8)) bk ?_ ?_
 ·by_cases h2:wv n<256
  ·have e:bX m n=(m<<<5+24)::oR n 1 1:=by unfold bX;rw [if_neg h1,if_pos h2]
   refine zB 0<|zP 1 [{}] [.aa [14,8,7,6,0,1,2] [5]] []<|dt 14 (wv n<24)<|zP 1 [{}] [.aa [24,14,8,7,6,0,1,2] [5]] []<|gU 24 (wv n<256)<|zX (yH [(1,yV (ab (m<<<(5:UInt8)+24)))]) [yR (ab (m<<<(5:UInt8)+24))]<|aL<|aq (⟨(m<<<5+24,1),(by refine ⟨?_,?_⟩<;>omega),(zW [.aa [0,1,2,7,8] [5]])⟩)
  by_cases h3:wv n<65536
  ·have e:bX m n=(m<<<5+25)::oR n 2 2:=by unfold bX;rw [if_neg h1,if_neg h2,if_pos h3]
   refine zB 0<|zP 1 [{}] [.aa [14,8,7,6,0,1,2] [5]] []<|dt 14 (wv n<24)<|zP 1 [{}] [.aa [24,14,8,7,6,0,1,2] [5]] []<|dt 24 (wv n<256)<|zP 1 [{}] [.aa [29,24,14,8,7,6,0,1,2] [5]] []<|gU 29 (wv n<65536)<|zX (yH [(1,yV (ab (m<<<(5:UInt8)+25)))]) [yR (ab (m<<<(5:UInt8)+25))]<|aL<|aq (⟨(m<<<5+25,2),(by refine ⟨?_,?_⟩<;>omega),(zW [.aa [0,1,2,7,8] [5]])⟩)
  by_cases h4:wv n<4294967296
  ·have e:bX m n=(m<<<5+26)::oR n 4 4:=by unfold bX;rw [if_neg h1,if_neg h2,if_neg h3,if_pos h4]
   refine zB 0<|zP 1 [{}] [.aa [14,8,7,6,0,1,2] [5]] []<|dt 14 (wv n<24)<|zP 1 [{}] [.aa [24,14,8,7,6,0,1,2] [5]] []<|dt 24 (wv n<256)<|zP 1 [{}] [.aa [29,24,14,8,7,6,0,1,2] [5]] []<|dt 29 (wv n<65536)<|zP 1 [{}] [.aa [34,29,24,14,8,7,6,0,1,2] [5]] []<|gU 34 (wv n<4294967296)<|zX (yH [(1,yV (ab (m<<<(5:UInt8)+26)))]) [yR (ab (m<<<(5:UInt8)+26))]<|aL<|aq (⟨(m<<<5+26,4),(by refine ⟨?_,?_⟩<;>omega),(zW [.aa [0,1,2,7,8] [5]])⟩)
  ·have e:bX m n=(m<<<5+27)::oR n 8 8:=by unfold bX;rw [if_neg h1,if_neg h2,if_neg h3,if_neg h4]
   refine zB 0<|zP 1 [{}] [.aa [14,8,7,6,0,1,2] [5]] []<|dt 14 (wv n<24)<|zP 1 [{}] [.aa [24,14,8,7,6,0,1,2] [5]] []<|dt 24 (wv n<256)<|zP 1 [{}] [.aa [29,24,14,8,7,6,0,1,2] [5]] []<|dt 29 (wv n<65536)<|zP 1 [{}] [.aa [34,29,24,14,8,7,6,0,1,2] [5]] []<|dt 34 (wv n<4294967296)<|zX (yH [(1,yV (ab (m<<<(5:UInt8)+27)))]) [yR (ab (m<<<(5:UInt8)+27))]<|aL<|aq (⟨(m<<<5+27,8),(by refine ⟨?_,?_⟩<;>omega),(zW [.aa [0,1,2,7,8] [5]])⟩)
 rintro ⟨f,s⟩ ⟨e,s1,s8⟩
 simp only at e s1 s8
 have Cq:=DJ n s
 refine zP 1 [yH [(2,yV (AV.arr (ag [f]))),(3,yV (AV.ref 42))]] [.aa [0,1,2,7,8] [42]] [yR [ab f],yO (((ag o).length+1)*1≤140737488355328)]<|zS<|zP 1 [yH [(1,yV (ai ((↑s:Int)-1)))]] [.aa [9,0,1,2,7,8] [42]] [yN ((↑s:Int)-1)]<|zB 1 (zL (fun (q:Nat)=>(⟨[(1,ab m),(2,aw n),(7,ab f),(8,ai ↑s),(9,ai ((s:Int)-1-q)),(0,AV.ref 42)],[(42,⟨1,true,false,ag (o++f::oR n s q)⟩)]⟩:AS)) (fun q=>(q≤s)) (fun q=>(s-q)) (0) ?_ (eQ [.aa [1,2,7,8,9,0] [42]] [9] [42] [yB (ai ((↑s:Int)-1)=ai ((↑s:Int)-1-(↑(0:Nat):Int))) (congrArg (fun n=>AV.val (.int .i64 n)) aj),yB (ag o++ag [f]=ag (o++f::oR n s 0)) (by rw [da];rfl)]) ?_)
 ·omega
 intro q hq
 have UA:=DJ n s q
 have VU:(ag (o++f::oR n s q)).length=o.length+(q+1):=by rw [aA,List.length_append,List.length_cons,UA]
 refine zS<|zP 1 [{}] [.aa [46,1,2,7,8,9,0] [42]] [] (zD 46 ((↑s:Int)-1-(↑q:Int)≥0) (fun h=>?_) (fun h=>?_))
 ·have w:IntKind.i64.wrap (8*((s:Int)-1-q))=((8*(s-1-q):Nat):Int):=by rw [IntKind.wrap_i64];omega
  refine a_<|zS<|zB 2<|zX (yH [(3,yV (ai (↑(8*(s-1-q)):Int))),(4,yV (aw (n>>>UInt64.ofNat (↑(8*(s-1-q)):Int).toNat))),(5,yV (ab ((n>>>UInt64.ofNat (↑(8*(s-1-q)):Int).toNat).toUInt8))),(6,yV (AV.arr (ag [(n>>>UInt64.ofNat (↑(8*(s-1-q)):Int).toNat).toUInt8]))),(7,yV (AV.arr (ag (o++f::oR n s q++ [(n>>>UInt64.ofNat (↑(8*(s-1-q)):Int).toNat).toUInt8]))))]) [yB (ai (IntKind.i64.wrap ((8:Int)*((↑s:Int)-1-(↑q:Int))))=ai (↑(8*(s-1-q)):Int)) (congrArg (fun n=>AV.val (.int .i64 n)) w),yI (fp n ((↑(8*(s-1-q)):Int)) aj aj),yO ((0:Int)≤(↑(8*(s-1-q)):Int)),yR (ab ((n>>>UInt64.ofNat (↑(8*(s-1-q)):Int).toNat).toUInt8)),yR [ab ((n>>>UInt64.ofNat (↑(8*(s-1-q)):Int).toNat).toUInt8)],yB (ag (o++f::oR n s q)++ag [(n>>>UInt64.ofNat (↑(8*(s-1-q)):Int).toNat).toUInt8]=ag (o++f::oR n s q++ [(n>>>UInt64.ofNat (↑(8*(s-1-q)):Int).toNat).toUInt8])) (da _ _),yO (((ag (o++f::oR n s q)).length+1)*1≤140737488355328)]<|aL<|aq<|zX (yH [(1,yV (ai ((↑s:Int)-1-(↑q:Int)-1)))]) [yN ((↑s:Int)-1-(↑q:Int)-1)] (aK (q+1) aj aj (eQ [.vp 56 42,.aa [1,2,7,8,9,0] [42]] [9] [42] [yB (ai ((↑s:Int)-1-(↑q:Int)-1)=ai ((↑s:Int)-1-(↑(q+1):Int))) (congrArg (fun n=>AV.val (.int .i64 n)) aj),yB (ag (o++f::oR n s q++ [(n>>>UInt64.ofNat (↑(8*(s-1-q)):Int).toNat).toUInt8])=ag (o++f::oR n s (q+1))) (congrArg ag (by rw [GR,Int.toNat_natCast];simp))]))
 ·have e2:q=s:=aj
  subst e2
  refine bf.oQ (bS.add 5 1 bk)<|zE 1<|ba<|aS<|br<|aq<|zq<|zR (zG [] [yB (ag (o++f::oR n q q)=ag (o++bX m n)) (by rw [e]),yB ([]=ag []) rfl])
def i6 (x:fH):List UInt8:=if x.kind=3∨x.kind=4 then bX (u8 (x.kind-1)) (u64 x.cD.length)++x.cD else bX (u8 (x.kind-1)) x.num
theorem l3 (m:UInt8) (n:UInt64):(bX m n).length≤9:=by
 unfold bX
 split
 ·simp
 ·split
  ·simp [oR]
  ·split
   ·simp [oR]
   ·split<;>simp [oR]
theorem yD (o:List UInt8) (x:fH) (hk:eO x.kind) (ho:o.length≤900000) (hd:x.cD.length≤10000):dh Tryz.prog 128 [.ref 5,.agg (aT x)] (Kb o) (.own 1 (ag (o++i6 x))) (Kb []):=by
 have hz:(⟨x.cD.toArray⟩:ByteArray).size≤maxLen:=by
  show x.cD.toArray.size≤_
  unfold maxLen
  simp;omega
 rcases hk with h|h|h|h
 ·have e:i6 x=bX (u8 (x.kind-1)) x.num:=if_neg aj
  refine m6 Tryz.func128 46<|zq<|zS<|zq<|zB 0<|zP 1 [{}] [.aa [7,6,4,3,0,1] [3,5]] []<|bn 7 (x.kind == (7:Int)) bE<|zq<|bn 16 (x.kind == (8:Int)) bE<|zS<|zP 1 [{}] [.aa [21,16,7,6,4,3,0,1] [3,5]] []<|bn 21 (x.kind == (3:Int)) bE<|zX {} []<|aq<|bn 21 (x.kind == (4:Int)) bE<|zK<|aL<|aq<|zP 1 [yH [(3,yV (ai (x.kind-1))),(4,yV (ab (u8 (x.kind-1)))),(7,{av:=some (AV.own 1 (ag (o++bX (u8 (x.kind-1)) x.num))),ln:=[(5,5)],ho:=[(5,Row.mk 1 true false (ag []))]})]] [.aa [4,21,16,7,6,3,1] [45,5,3]] [yN (x.kind-1),yI (i3 (x.kind-1)),yB (dh Tryz.prog 164 [AV.ref 5,ab (u8 (x.kind-1)),aw x.num] [(5,Row.mk 1 true false (ag o))] (AV.own 1 (ag (o++bX (u8 (x.kind-1)) x.num))) [(5,Row.mk 1 true false (ag []))]) (oa (o) (u8 (x.kind-1)) (x.num) aj)]<|zR (zG [] [yB (ag (o++bX (u8 (x.kind-1)) x.num)=ag (o++i6 x)) (by rw [e]),yR (ag [])])
 ·have e:i6 x=bX (u8 (x.kind-1)) (u64 x.cD.length)++x.cD:=if_pos aj
  have hl:=l3 (u8 (x.kind-1)) (u64 x.cD.length)
  have hb:(ag (o++bX (u8 (x.kind-1)) (u64 x.cD.length))).length≤900009:=by rw [aA,List.length_append];omega
  have rj:(ag x.cD.toArray.toList).length≤10000:=by rw [aA];exact hd
  refine m6 Tryz.func128 46<|zq<|zS<|zq<|zB 0<|zP 1 [{}] [.aa [7,6,4,3,0,1] [3,5]] []<|bn 7 (x.kind == (7:Int)) bE<|zq<|bn 16 (x.kind == (8:Int)) bE<|zS<|bf.jX 1 [{}] [.aa [21,16,7,6,4,3,0,1] [3,5]] bk (s':=AS.mk [(21,ao (x.kind == (3:Int))),(16,ao (x.kind == (8:Int))),(7,ao (x.kind == (7:Int))),(6,ai x.kind),(4,AV.nil),(3,AV.addr 3 0),(0,AV.ref 5),(1,AV.agg (aT x))] [(3,Row.mk 1 false true (List.map (aE 3) (aT x))),(5,Row.mk 1 true false (ag o))]) (C:=[]) bk trivial<|dB 21 (x.kind == (3:Int)) fg<|a_<|dB 21 (x.kind == (3:Int)) fg<|zP 2 [yH [(3,yV (ai (x.kind-1))),(4,yV (ab (u8 (x.kind-1)))),(7,yV (ai (↑x.cD.length:Int))),(8,yV (aw (u64 (↑x.cD.length:Int)))),(9,{av:=some (AV.own 1 (ag (o++bX (u8 (x.kind-1)) (u64 (↑x.cD.length:Int))))),ln:=[(5,5)],ho:=[(5,Row.mk 1 true false (ag []))]})],yH [(3,{av:=some (AV.arr (ag (o++bX (u8 (x.kind-1)) (u64 (↑x.cD.length:Int))++x.cD.toArray.toList))),b:=false})]] [.aa [4,21,16,7,6,3,1] [37,5,3]] [yN (x.kind-1),yI (i3 (x.kind-1)),yR (ai (↑x.cD.length:Int)),yI (aY ((↑x.cD.length:Int))),yB (dh Tryz.prog 164 [AV.ref 5,ab (u8 (x.kind-1)),aw (u64 (↑x.cD.length:Int))] [(5,Row.mk 1 true false (ag o))] (AV.own 1 (ag (o++bX (u8 (x.kind-1)) (u64 (↑x.cD.length:Int))))) [(5,Row.mk 1 true false (ag []))]) (oa (o) (u8 (x.kind-1)) (u64 (↑x.cD.length:Int)) aj),yB (ag (o++bX (u8 (x.kind-1)) (u64 (↑x.cD.length:Int)))++ag x.cD.toArray.toList=ag (o++bX (u8 (x.kind-1)) (u64 (↑x.cD.length:Int))++x.cD.toArray.toList)) (da _ _),yB (cI (ag x.cD.toArray.toList)) (fQ _),yO (((ag (o++bX (u8 (x.kind-1)) (u64 (↑x.cD.length:Int)))).length+(ag x.cD.toArray.toList).length)*1≤140737488355328)]<|zR<|a6<|aI (zG [] [yB (ag (o++bX (u8 (x.kind-1)) (u64 (↑x.cD.length:Int))++x.cD.toArray.toList)=ag (o++i6 x)) (by rw [e];simp),yR (ag [])])
 ·have e:i6 x=bX (u8 (x.kind-1)) (u64 x.cD.length)++x.cD:=if_pos aj
  have hl:=l3 (u8 (x.kind-1)) (u64 x.cD.length)
  have hb:(ag (o++bX (u8 (x.kind-1)) (u64 x.cD.length))).length≤900009:=by rw [aA,List.length_append];omega
  have rj:(ag x.cD.toArray.toList).length≤10000:=by rw [aA];exact hd
  refine m6 Tryz.func128 46<|zq<|zS<|zq<|zB 0<|zP 1 [{}] [.aa [7,6,4,3,0,1] [3,5]] []<|bn 7 (x.kind == (7:Int)) bE<|zq<|bn 16 (x.kind == (8:Int)) bE<|zS<|zP 1 [{}] [.aa [21,16,7,6,4,3,0,1] [3,5]] []<|bn 21 (x.kind == (3:Int)) bE<|zX {} []<|aq<|dB 21 (x.kind == (4:Int)) fg<|zP 2 [yH [(3,yV (ai (x.kind-1))),(4,yV (ab (u8 (x.kind-1)))),(7,yV (ai (↑x.cD.length:Int))),(8,yV (aw (u64 (↑x.cD.length:Int)))),(9,{av:=some (AV.own 1 (ag (o++bX (u8 (x.kind-1)) (u64 (↑x.cD.length:Int))))),ln:=[(5,5)],ho:=[(5,Row.mk 1 true false (ag []))]})],yH [(3,{av:=some (AV.arr (ag (o++bX (u8 (x.kind-1)) (u64 (↑x.cD.length:Int))++x.cD.toArray.toList))),b:=false})]] [.aa [4,21,16,7,6,3,1] [37,5,3]] [yN (x.kind-1),yI (i3 (x.kind-1)),yR (ai (↑x.cD.length:Int)),yI (aY ((↑x.cD.length:Int))),yB (dh Tryz.prog 164 [AV.ref 5,ab (u8 (x.kind-1)),aw (u64 (↑x.cD.length:Int))] [(5,Row.mk 1 true false (ag o))] (AV.own 1 (ag (o++bX (u8 (x.kind-1)) (u64 (↑x.cD.length:Int))))) [(5,Row.mk 1 true false (ag []))]) (oa (o) (u8 (x.kind-1)) (u64 (↑x.cD.length:Int)) aj),yB (ag (o++bX (u8 (x.kind-1)) (u64 (↑x.cD.length:Int)))++ag x.cD.toArray.toList=ag (o++bX (u8 (x.kind-1)) (u64 (↑x.cD.length:Int))++x.cD.toArray.toList)) (da _ _),yB (cI (ag x.cD.toArray.toList)) (fQ _),yO (((ag (o++bX (u8 (x.kind-1)) (u64 (↑x.cD.length:Int)))).length+(ag x.cD.toArray.toList).length)*1≤140737488355328)]<|zR<|a6<|aI (zG [] [yB (ag (o++bX (u8 (x.kind-1)) (u64 (↑x.cD.length:Int))++x.cD.toArray.toList)=ag (o++i6 x)) (by rw [e];simp),yR (ag [])])
 ·have e:i6 x=bX (u8 (x.kind-1)) x.num:=if_neg aj
  refine m6 Tryz.func128 46<|zq<|zS<|zq<|zB 0<|zP 1 [{}] [.aa [7,6,4,3,0,1] [3,5]] []<|bn 7 (x.kind == (7:Int)) bE<|bf.jH 1 [{}] bk (s':=AS.mk [(16,ao (x.kind == (8:Int))),(17,ao (x.kind == (8:Int))),(7,ao (x.kind == (7:Int))),(6,ai x.kind),(4,AV.nil),(3,AV.addr 3 0),(0,AV.ref 5),(1,AV.agg (aT x))] [(3,Row.mk 1 false true (List.map (aE 3) (aT x))),(5,Row.mk 1 true false (ag o))]) (C:=[]) bk trivial<|bn 16 (x.kind == (8:Int)) bE<|zS<|zP 1 [{}] [.aa [21,16,7,6,4,3,0,1] [3,5]] []<|bn 21 (x.kind == (3:Int)) bE<|zX {} []<|aq<|bn 21 (x.kind == (4:Int)) bE<|zK<|aL<|aq<|zP 1 [yH [(3,yV (ai (x.kind-1))),(4,yV (ab (u8 (x.kind-1)))),(7,{av:=some (AV.own 1 (ag (o++bX (u8 (x.kind-1)) x.num))),ln:=[(5,5)],ho:=[(5,Row.mk 1 true false (ag []))]})]] [.aa [4,21,16,7,6,3,1] [45,5,3]] [yN (x.kind-1),yI (i3 (x.kind-1)),yB (dh Tryz.prog 164 [AV.ref 5,ab (u8 (x.kind-1)),aw x.num] [(5,Row.mk 1 true false (ag o))] (AV.own 1 (ag (o++bX (u8 (x.kind-1)) x.num))) [(5,Row.mk 1 true false (ag []))]) (oa (o) (u8 (x.kind-1)) (x.num) aj)]<|zR (zG [] [yB (ag (o++bX (u8 (x.kind-1)) x.num)=ag (o++i6 x)) (by rw [e]),yR (ag [])])
def gB (l:List fH):List UInt8:=l.flatMap i6
def F9 (l:List fH):List UInt8:=if eU l=0 then gB l else []
theorem Bc (x:fH):(i6 x).length≤9+x.cD.length:=by
 unfold i6
 split
 ·have:=l3 (u8 (x.kind-1)) (u64 x.cD.length)
  rw [List.length_append];omega
 ·have:=l3 (u8 (x.kind-1)) x.num
  omega
theorem ql:∀ {l:List fH} {n:Nat},(∀x∈l,x.cD.length≤10000)->l.length≤n->(gB l).length≤10009*n
 | [],n,_,_=>Nat.zero_le _
 | x::l,n,h,hn=>by
  have ih:=ql (l:=l) (n:=n-1) (fun y hy=>h y (by simp [hy])) (by simp at hn;omega)
  have h1:=Bc x
  have h2:=h x (by simp)
  simp only [List.length_cons] at hn
  show (i6 x++gB l).length≤_
  rw [List.length_append];omega
theorem C_ (l:List fH) (hl:l.length≤50) (hk:∀x∈l,eO x.kind) (hd:∀x∈l,x.cD.length≤10000):bL Tryz.prog 77 [.sl 3 (ae aT l)] (.bt [.own 1 (ag (F9 l)),ai (eU l)]):=by
 have uG:(ae aT l).length=l.length*3:=aG (e:=3) (fun _=>rfl) ..
 have y2:∀x∈l,x.cD.length≤1000000:=fun x hx=>by have:=hd x hx;omega
 by_cases h:eU l=0
 case neg =>
  have e:F9 l= []:=if_neg h
  refine zO Tryz.func77 24<|zq<|zS<|zP 2 [yH [(1,yV (ai (eU l)))],yH [(1,yV (ao true))]] [.aa [11,4,3,2,0] []] [yI (iK l aj hk y2),yB (ao (eU l != (0:Int))=ao true) (by simp [h])]<|zT 11<|zq<|dn (zV [yB (ag (F9 l)= []) (by rw [e];rfl),yR (Value.int .i64 (eU l))])
 have e:F9 l=gB l:=if_pos h
 refine zO Tryz.func77 24<|zq<|zS<|zP 2 [yH [(1,yV (ai (eU l)))],yH [(1,yV (ao false))]] [.aa [11,4,3,2,0] []] [yI (iK l aj hk y2),yB (ao (eU l != (0:Int))=ao false) (by simp [h])]<|zF 11<|a_<|zq<|zS<|zQ 1 [yH [(1,{k:=l.length})]] [yI uG]<|zB 0 (zL (fun (i:Nat)=>(⟨[(14,ai (↑l.length:Int)),(13,AV.sl 3 (ae aT l)),(11,ao false),(4,ai (eU l)),(3,ai 0),(2,AV.nil),(0,AV.sl 3 (ae aT l)),(15,ai i),(5,AV.ref 21)],[(21,⟨1,true,false,ag (gB (l.take i))⟩)]⟩:AS)) (fun i=>(i≤l.length)) (fun i=>(l.length-i)) (0) ?_ (zW [.nil 5 21 1,.aa [14,13,11,4,3,2,0,15,5] [21]]) ?_)
 ·omega
 intro i hi
 have M4:(gB (l.take i)).length≤10009*i:=ql (fun x hx=>hd x (List.mem_of_mem_take hx)) (by rw [List.length_take];omega)
 refine zq<|zS (zD 16 ((↑i:Int)<(↑l.length:Int)) (fun h2=>?_) (fun h2=>?_))
 ·have dM:i<l.length:=aj
  have hm:l.getD i default∈l:=by rw [List.getD_eq_getElem?_getD,List.getElem?_eq_getElem dM];exact List.getElem_mem dM
  have QD:=hk _ hm
  have QI:=hd _ hm
  have es:gB (l.take i)++i6 (l.getD i default)=gB (l.take (i+1)):=by
   rw [List.take_succ_eq_append_getElem dM]
   unfold gB
   rw [List.flatMap_append,List.getD_eq_getElem?_getD,List.getElem?_eq_getElem dM]
   simp
  refine a_<|zS<|zB 1<|zP 1 [yH [(0,{k:=i}),(1,yV (AV.agg (aT (l.getD i default))))]] [.aa [7,16,14,13,11,4,3,2,0,15,5] [7,21]] [yR (↑i:Int),yO (i*3<(ae aT l).length),yB (List.take 3 (List.drop (i*3) (ae aT l))=(aT (l.getD i default))) (dr (f:=aT) (e:=3) (k:=i) (j:=0) (fun _=>rfl) aj (by decide) rfl),yR 3,yL 3 3]<|zX (yH [(2,{av:=some (AV.own 1 (ag (gB (List.take i l)++i6 (l.getD i default)))),ln:=[(21,5)],ho:=[(5,Row.mk 1 true false (ag []))]})]) [yB (dh Tryz.prog 128 [AV.ref 5,AV.agg (aT (l.getD i default))] [(5,Row.mk 1 true false (ag (gB (List.take i l))))] (AV.own 1 (ag (gB (List.take i l)++i6 (l.getD i default)))) [(5,Row.mk 1 true false (ag []))]) (yD (gB (List.take i l)) (l.getD i default) QD aj QI)]<|aL<|aq<|zX (yH [(0,yV (ai ((↑i:Int)+1)))]) [yN ((↑i:Int)+1)] (aK (i+1) (by assumption) aj (eQ [.aa [14,13,11,4,3,2,0,15,5] [21]] [] [21] [yB (ag (gB (List.take i l)++i6 (l.getD i default))=ag (gB (List.take (i+1) l))) (congrArg ag es)]))
 ·have e2:i=l.length:=aj
  subst e2
  refine zE 0<|ba<|aS<|br<|aq<|zq<|zR (zV [yB (ag (gB (List.take l.length l))=ag (F9 l)) (by rw [e,List.take_length]),yJ 0 (eU l) (by rw [h])])
def di (l:List fH):List AV:=[.sl 3 (ae aT l)]
def aH (n:UInt64):fH:=⟨1,n,[]⟩
def cC (b:List UInt8):fH:=⟨4,0,b⟩
def dZ (b:List UInt8):fH:=⟨3,0,b⟩
def bD (n:UInt64):fH:=⟨5,n,[]⟩
theorem gY (n:UInt64):bL Tryz.prog 75 [aw n] (.own 3 (ae aT [aH n])):=by
 refine zO Tryz.func75 6<|zP 2 [{},{}] [.aa [2,0] [5]] []<|zR (bR)
theorem tF (b:List UInt8):bL Tryz.prog 122 [cF b] (.own 3 (ae aT [cC b])):=by
 refine zO Tryz.func122 6<|zP 2 [{},{}] [.aa [2,0] [5]] []<|zR (bR)
theorem Bk (b:List UInt8) (hb:b.length≤1000000):bL Tryz.prog 123 [.sl 1 (ag b)] (.own 3 (ae aT [dZ b])):=by
 refine zO Tryz.func123 7<|zP 2 [{},yH [(1,yV (cF b))]] [.aa [2,0] [6]] [yR (ag b)]<|zR (bR)
theorem Ef {l:List (List fH)} {i:Nat} (h:i<l.length):(ae di l)[i]?=some (.sl 3 (ae aT (l.getD i default))):=by
 have:=bc (f:=di) (e:=1) (l:=l) (k:=i) (j:=0) (fun _=>rfl) h (c:=.sl 3 (ae aT (l.getD i default))) rfl
 simpa using this
structure JB (vs:List (List fH)):Prop where
 len:vs.length≤20
 each:∀v∈vs,v.length≤20
 kind:∀v∈vs,∀x∈v,eO x.kind
 cD:∀v∈vs,∀x∈v,x.cD.length≤10000
def oA (vs:List (List fH)) (i:Nat):Int:=eU (vs.getD i default)
theorem CG (vs:List (List fH)) (hv:JB vs):bL Tryz.prog 125 [.sl 1 (ae di vs)] (ai (ff (oA vs) vs.length)):=by
 have TK:=hv.len
 have uG:(ae di vs).length=vs.length:=by rw [aG (e:=1) (fun _=>rfl)];omega
 refine zO Tryz.func125 18<|zq<|zS<|zQ 1 [yH [(1,{k:=(ae di vs).length})]] [yR ((ae di vs).length)]<|zB 0 (zL (fun (i:Nat)=>(⟨[(7,ai (↑(ae di vs).length:Int)),(6,AV.sl 1 (ae di vs)),(0,AV.sl 1 (ae di vs)),(8,ai i)],[]⟩:AS)) (fun i=>(i≤vs.length∧ff (oA vs) i=0)) (fun i=>(vs.length-i)) (0) ?_ (zW [.aa [7,6,0,8] []]) ?_)
 ·exact ⟨aj,rfl⟩
 rintro i ⟨hi,h0⟩
 refine zq<|zS (zD 9 ((↑i:Int)<(↑(ae di vs).length:Int)) (fun h=>?_) (fun h=>?_))
 ·have dM:i<vs.length:=aj
  have gN:=Ef dM
  have hm:vs.getD i default∈vs:=by rw [List.getD_eq_getElem?_getD,List.getElem?_eq_getElem dM];exact List.getElem_mem dM
  have he:=hv.each _ hm
  have hk:=hv.kind _ hm
  have y2:∀x∈vs.getD i default,x.cD.length≤1000000:=fun x hx=>by have:=hv.cD _ hm x hx;omega
  by_cases e:eU (vs.getD i default)=0
  ·have k2:ff (oA vs) (i+1)=0:=by show (if _ then _ else _)=_;rw [if_neg aj];exact e
   refine a_<|zS<|zB 1<|zP 3 [yH [(0,{k:=i}),(1,yV (AV.sl 3 (ae aT (vs.getD i default))))],yH [(1,yV (ai (eU (vs.getD i default))))],{}] [.aa [15,5,4,9,7,6,0,8] []] [yR (↑i:Int),yO (i<(ae di vs).length),yI gN,yI (iK (vs.getD i default) aj hk y2)]<|bn 15 (eU (vs.getD i default) != (0:Int)) (by simp_all)<|zK<|aL<|aq<|zX (yH [(0,yV (ai ((↑i:Int)+1)))]) [yN ((↑i:Int)+1)] (aK (i+1) ⟨aj,k2⟩ aj (zW [.aa [7,6,0,8] []]))
  ·have k2:ff (oA vs) (i+1)=oA vs i:=by show (if _ then _ else _)=_;rw [if_neg aj]
   have k3:=lg (E:=oA vs) e k2 vs.length aj
   refine a_<|zS<|zB 1<|zP 3 [yH [(0,{k:=i}),(1,yV (AV.sl 3 (ae aT (vs.getD i default))))],yH [(1,yV (ai (eU (vs.getD i default))))],{}] [.aa [15,5,4,9,7,6,0,8] []] [yR (↑i:Int),yO (i<(ae di vs).length),yI gN,yI (iK (vs.getD i default) aj hk y2)]<|dB 15 (eU (vs.getD i default) != (0:Int)) (by simp_all)<|zq<|zR<|a6<|aI<|de<|a6<|aI (zV [yJ (eU (vs.getD i default)) (ff (oA vs) vs.length) (by rw [k3])])
 ·have e:i=vs.length:=aj
  subst e
  refine zE 0<|ba<|aS<|br<|aq<|zq<|zR (zV [yJ 0 (ff (oA vs) vs.length) (by rw [h0])])
theorem Bj (l:List fH) (e:eU l=0) (hl:l.length≤500) (hk:∀x∈l,eO x.kind) (y2:∀x∈l,x.cD.length≤1000000):bL Tryz.prog 126 [.sl 3 (ae aT l)] (.bt [.sl 3 (ae aT l),ai 0]):=by
 refine zO Tryz.func126 11<|zq<|zS<|zP 2 [yH [(1,yV (ai (eU l)))],yH [(1,yV (ao false))]] [.aa [8,4,3,2,0] []] [yI (iK l hl hk y2),yB (ao (eU l != (0:Int))=ao false) (by simp [e])]<|zF 8<|a_<|zq<|zR (bR)
def pz (vs:List (List fH)):List fH:=bD (u64 vs.length)::vs.flatten
theorem Eg {vs:List (List fH)} (hv:JB vs):∀x∈pz vs,eO x.kind∧x.cD.length≤10000:=by
 intro x hx
 rcases List.mem_cons.1 hx with rfl|hx
 ·exact ⟨.inr (.inr (.inr rfl)),Nat.zero_le _⟩
 ·obtain ⟨v,hm,N7⟩:=List.mem_flatten.1 hx
  exact ⟨hv.kind v hm x N7,hv.cD v hm x N7⟩
theorem xK:∀ {vs:List (List fH)} {n:Nat},(∀v∈vs,v.length≤20)->vs.length≤n->vs.flatten.length≤20*n
 | [],n,_,_=>Nat.zero_le _
 | v::vs,n,h,hn=>by
  simp only [List.length_cons] at hn
  have ih:=xK (vs:=vs) (n:=n-1) (fun y hy=>h y (by simp [hy])) aj
  have h1:=h v (by simp)
  rw [List.flatten_cons,List.length_append];omega
theorem wy (x:fH):cI (aT x):=dN rfl
theorem rH (vs:List (List fH)) (hv:JB vs) (hf:ff (oA vs) vs.length=0) (e:eU (pz vs)=0):bL Tryz.prog 76 [.sl 1 (ae di vs)] (.bt [.sl 3 (ae aT (pz vs)),ai 0]):=by
 have TK:=hv.len
 have uG:(ae di vs).length=vs.length:=by rw [aG (e:=1) (fun _=>rfl)];omega
 have sG:=xK (vs:=vs) (n:=20) hv.each TK
 have R8:(pz vs).length≤500:=by show vs.flatten.length+1≤_;omega
 have V3:∀x∈pz vs,eO x.kind:=fun x hx=>(Eg hv x hx).1
 have V4:∀x∈pz vs,x.cD.length≤1000000:=fun x hx=>by have:=(Eg hv x hx).2;omega
 refine zO Tryz.func76 35<|zq<|zS<|zP 2 [yH [(1,yV (ai (ff (oA vs) vs.length)))],yH [(1,yV (ao false))]] [.aa [11,4,3,2,0] []] [yI (CG vs hv),yB (ao (ff (oA vs) vs.length != (0:Int))=ao false) (by simp [hf])]<|zF 11<|a_<|zP 1 [yH [(1,{k:=(ae di vs).length}),(2,yV (aw (u64 (↑(ae di vs).length:Int))))]] [.aa [5,11,4,3,2,0] [17]] [yR ((ae di vs).length),yI (aY (↑(ae di vs).length:Int))]<|zS<|zQ 1 [yH [(1,{k:=(ae di vs).length})]] [yR ((ae di vs).length)]<|zB 0 (zL (fun (i:Nat)=>(⟨[(19,ai (↑(ae di vs).length:Int)),(18,AV.sl 1 (ae di vs)),(11,ao false),(4,ai (ff (oA vs) vs.length)),(3,ai 0),(2,AV.nil),(0,AV.sl 1 (ae di vs)),(20,ai i),(5,AV.ref 29)],[(29,⟨3,true,false,ae aT (bD (u64 vs.length)::(vs.take i).flatten)⟩)]⟩:AS)) (fun i=>(i≤vs.length)) (fun i=>(vs.length-i)) (0) ?_ (eQ [.vp 17 29,.loose 29,.aa [19,18,11,4,3,2,0,20,5] [29]] [] [29] [yB ([ai 5,aw (u64 (↑(ae di vs).length:Int)),AV.val (Value.string (ByteArray.mk #[]))]=ae aT (bD (u64 (↑vs.length:Int))::(List.take 0 vs).flatten)) (by rw [uG];rfl)]) ?_)
 ·omega
 intro i hi
 have VZ:=xK (vs:=vs.take i) (n:=20) (fun v hm=>hv.each v (List.mem_of_mem_take hm)) (by rw [List.length_take];omega)
 have QC:(ae aT (bD (u64 vs.length)::(vs.take i).flatten)).length≤1203:=by rw [aG (e:=3) (fun _=>rfl),List.length_cons];omega
 have LS:(bD (u64 vs.length)::(vs.take i).flatten).length≤401:=by rw [List.length_cons];omega
 refine zq<|zS (zD 21 ((↑i:Int)<(↑(ae di vs).length:Int)) (fun h=>?_) (fun h=>?_))
 ·have dM:i<vs.length:=aj
  have gN:=Ef dM
  have hm:vs.getD i default∈vs:=by rw [List.getD_eq_getElem?_getD,List.getElem?_eq_getElem dM];exact List.getElem_mem dM
  have he:=hv.each _ hm
  have M4:(ae aT (vs.getD i default)).length≤60:=by rw [aG (e:=3) (fun _=>rfl)];omega
  have es:ae aT (bD (u64 vs.length)::(vs.take i).flatten)++ae aT (vs.getD i default)=ae aT (bD (u64 vs.length)::(vs.take (i+1)).flatten):=by
   have ef:(vs.take (i+1)).flatten=(vs.take i).flatten++vs.getD i default:=by
    rw [List.take_succ_eq_append_getElem dM,List.flatten_append,List.getD_eq_getElem?_getD,List.getElem?_eq_getElem dM]
    simp
   rw [fE,ef];rfl
  refine a_<|zS<|zB 1<|zP 1 [yH [(0,{k:=i}),(1,yV (AV.sl 3 (ae aT (vs.getD i default))))]] [.aa [7,21,19,18,11,4,3,2,0,20,5] [29]] [yR (↑i:Int),yO (i<(ae di vs).length),yI gN]<|zS<|zP 1 [yH [(1,{k:=(bD (u64 (↑vs.length:Int))::(List.take i vs).flatten).length})]] [.aa [26,7,21,19,18,11,4,3,2,0,20,5] [29]] [yB ((ae aT (bD (u64 (↑vs.length:Int))::(List.take i vs).flatten)).length=(bD (u64 (↑vs.length:Int))::(List.take i vs).flatten).length*3) (by simp only [aG (f:=aT) (e:=3) (fun _=>rfl)])]<|dt 26 ((↑(bD (u64 (↑vs.length:Int))::(List.take i vs).flatten).length:Int)>512)<|a_<|zX (yH [(2,{b:=false})]) [yB (cI (ae aT (vs.getD i default))) (dG (fun x=>wy x) _),yO (((ae aT (bD (u64 (↑vs.length:Int))::(List.take i vs).flatten)).length+(ae aT (vs.getD i default)).length)*32≤422212465065984)]<|aL<|aq<|zX (yH [(0,yV (ai ((↑i:Int)+1)))]) [yN ((↑i:Int)+1)] (aK (i+1) (by assumption) aj (eQ [.aa [19,18,11,4,3,2,0,20,5] [29]] [] [29] [yI es]))
 ·have e2:i=vs.length:=aj
  subst e2
  rw [List.take_length]
  refine zE 0<|ba<|aS<|br<|aq<|zP 1 [yH [(1,{av:=some (AV.bt [AV.sl 3 (ae aT (bD (u64 (↑vs.length:Int))::vs.flatten)),ai 0]),b:=false})]] [.aa [3,2,21,19,18,11,4,0,20,5] []] [yI (Bj (bD (u64 (↑vs.length:Int))::vs.flatten) (by assumption) (by assumption) (by assumption) (by assumption))]<|zR (bR)
structure eT (x:fH):Prop where
 kind:x.kind=1∨x.kind=3∨x.kind=4
 TY:gQ x=true
 cD:x.cD.length≤1024
 acc:qB x=0
theorem eT.uint (n:UInt64):eT (aH n):=⟨.inl rfl,rfl,Nat.zero_le _,rfl⟩
theorem eT.byte {b:List UInt8} (h:b.length≤1024):eT (dZ b):=⟨.inr (.inl rfl),rfl,h,rfl⟩
theorem eT.text {b:List UInt8} (h:b.length≤1024) (hv:Lib.validD b=true):eT (cC b):=⟨.inr (.inr rfl),rfl,h,by
 unfold qB
 rw [if_neg]
 rintro ⟨-,q⟩
 have q:Lib.validD b=false:=q
 rw [hv] at q;cases q⟩
theorem s6 {fr:List Int} {c:Nat} {x:fH} (h:eT x) (h1:c=0∨fr.length≠0) (h2:c<512) (h3:fr.length≤8):mY fr c x=0:=by
 have hk:=h.kind
 have ha:dW c fr.length x.kind=0:=by unfold dW;rw [if_neg aj,if_neg aj,if_neg aj]
 have hd:=h.cD
 unfold mY
 rw [if_neg aj,if_neg aj,if_neg (by rw [h.TY];decide),if_neg aj,if_neg aj]
 exact h.acc
theorem GY {x:fH} (h:eT x) (k:Int):lS [k] x=if k=1 then [] else [k-1]:=by
 have hk:=h.kind
 have hp:lB x (mJ [k])= [k-1]:=by
  unfold lB
  rw [if_neg aj]
  rfl
 unfold lS
 rw [hp]
 unfold o9
 by_cases e:k=1
 ·subst e;rfl
 ·rw [if_neg e]
  have:lC [k-1] 1=1:=by
   show (if ([k-1]:List Int).getD 0 0=0 then _ else _)=_
   rw [if_neg]
   show ¬(k-1=0)
   omega
  show List.take (lC [k-1] 1) [k-1]=_
  rw [this];rfl
theorem J3 {x:fH} (h:eT x):lS [] x= []:=by
 have hk:=h.kind
 unfold lS lB
 rw [if_neg aj]
 rfl
theorem DP {n:UInt64} (h:0<wv n):lS [] (bD n)= [wv n]:=by
 have hp:lB (bD n) (mJ [])= [wv n]:=if_pos ⟨rfl,h⟩
 unfold lS
 rw [hp]
 have:lC [wv n] 1=1:=by
  show (if ([wv n]:List Int).getD 0 0=0 then _ else _)=_
  rw [if_neg]
  show ¬(wv n=0)
  omega
 unfold o9
 show List.take (lC [wv n] 1) [wv n]=_
 rw [this];rfl
theorem zd {x:fH} (h:eT x):eU [x]=0:=by
 have h0:vE [x] 0=0:=s6 h (.inl rfl) (by decide) (Nat.zero_le _)
 have hf:ff (vE [x]) 1=0:=by show (if _ then _ else _)=_;rw [if_neg (by show ¬(0:Int)≠0;decide)];exact h0
 have hv:vF [x] 1= []:=J3 h
 unfold eU
 show (if ff (vE [x]) 1≠0 then ff (vE [x]) 1 else if 0<1∧(vF [x] 1).length=0 then 0 else 1)=(0:Int)
 rw [if_neg aj,if_pos ⟨by decide,by rw [hv];rfl⟩]
section
variable {n:UInt64} {xs:List fH} (hx:∀x∈xs,eT x) (hn:wv n=xs.length) (h1:1≤xs.length) (h2:xs.length≤100)
include hx hn h1 h2
theorem BE:∀j,j≤xs.length->vF (bD n::xs) (j+1)=if j=xs.length then [] else [(xs.length:Int)-j]
 | 0,_=>by
  rw [if_neg aj]
  show lS [] (bD n)=_
  rw [DP aj,hn];simp
 | j+1,hj=>by
  have ih:=BE j aj
  rw [if_neg aj] at ih
  have hm:(bD n::xs).getD (j+1) default∈xs:=by
   show xs.getD j default∈xs
   rw [List.getD_eq_getElem?_getD,List.getElem?_eq_getElem aj];exact List.getElem_mem aj
  show lS (vF (bD n::xs) (j+1)) ((bD n::xs).getD (j+1) default)=_
  rw [ih,GY (hx _ hm)]
  by_cases e:j+1=xs.length
  ·rw [if_pos aj,if_pos e]
  ·rw [if_neg aj,if_neg e]
   congr 1
   omega
theorem Ml (j:Nat) (hj:j≤xs.length):vE (bD n::xs) j=0:=by
 cases j with
 | zero =>
  show mY [] 0 (bD n)=0
  unfold mY
  rw [if_neg aj,if_neg (by show ¬dW 0 0 5≠0;decide),if_neg (by show ¬gQ (bD n)=false;have:gQ (bD n)=true:=rfl;rw [this];decide),if_neg (by show ¬1024<0;decide),if_neg (by rintro ⟨-,q⟩;have q:512<wv n:=q;omega)]
  rfl
 | succ j =>
  have hm:(bD n::xs).getD (j+1) default∈xs:=by
   show xs.getD j default∈xs
   rw [List.getD_eq_getElem?_getD,List.getElem?_eq_getElem aj];exact List.getElem_mem aj
  have e:=BE hx hn h1 h2 j aj
  rw [if_neg aj] at e
  show mY (vF (bD n::xs) (j+1)) (j+1) ((bD n::xs).getD (j+1) default)=0
  rw [e]
  exact s6 (hx _ hm) (.inr (by simp)) aj (by simp)
theorem IM:∀j,j≤xs.length+1->ff (vE (bD n::xs)) j=0
 | 0,_=>rfl
 | j+1,hj=>by
  show (if _ then _ else _)=_
  rw [if_neg (by rw [IM j aj];decide)]
  exact Ml hx hn h1 h2 j aj
theorem DG:eU (bD n::xs)=0:=by
 have hf:=IM hx hn h1 h2 (xs.length+1) (Nat.le_refl _)
 have hv:=BE hx hn h1 h2 xs.length (Nat.le_refl _)
 rw [if_pos rfl] at hv
 unfold eU
 show (if ff (vE (bD n::xs)) (xs.length+1)≠0 then _ else if 0<xs.length+1∧(vF (bD n::xs) (xs.length+1)).length=0 then 0 else 1)=(0:Int)
 rw [if_neg aj,if_pos ⟨aj,by rw [hv];rfl⟩]
end
theorem o_ {xs:List fH} (hx:∀x∈xs,eT x) (h1:1≤xs.length) (h2:xs.length≤20):JB (xs.map fun x=>[x])∧ff (oA (xs.map fun x=>[x])) (xs.map fun x=>[x]).length=0∧eU (pz (xs.map fun x=>[x]))=0∧pz (xs.map fun x=>[x])=bD (u64 xs.length)::xs:=by
 have sG:(xs.map fun x=>[x]).flatten=xs:=by
  clear hx h1 h2
  induction xs with
  | nil=>rfl
  | cons x l ih=>rw [List.map_cons,List.flatten_cons,ih];rfl
 have ha:pz (xs.map fun x=>[x])=bD (u64 xs.length)::xs:=by unfold pz;rw [sG,List.length_map]
 have rb:∀v∈xs.map fun x=>[x],∃x∈xs,v= [x]:=fun v hv=>by
  obtain ⟨x,hm,e⟩:=List.mem_map.1 hv
  exact ⟨x,hm,e.symm⟩
 refine ⟨⟨by rw [List.length_map];exact h2,fun v hv=>?_,fun v hv x N7=>?_,fun v hv x N7=>?_⟩,?_,?_,ha⟩
 ·obtain ⟨x,-,rfl⟩:=rb v hv;simp
 ·obtain ⟨y,hy,rfl⟩:=rb v hv
  have:=List.mem_singleton.1 N7
  subst this
  rcases (hx _ hy).kind with q|q|q
  ·exact .inl q
  ·exact .inr (.inl q)
  ·exact .inr (.inr (.inl q))
 ·obtain ⟨y,hy,rfl⟩:=rb v hv
  have:=List.mem_singleton.1 N7
  subst this
  have:=(hx _ hy).cD
  omega
 ·have:∀j,j≤(xs.map fun x=>[x]).length->ff (oA (xs.map fun x=>[x])) j=0:=by
   intro j
   induction j with
   | zero=>intro _;rfl
   | succ j ih =>
    intro hj
    show (if _ then _ else _)=_
    rw [if_neg (by rw [ih aj];decide)]
    have Bw:j<xs.length:=by rw [List.length_map] at hj;omega
    show eU ((xs.map fun x=>[x]).getD j default)=0
    rw [List.getD_eq_getElem?_getD,List.getElem?_map,List.getElem?_eq_getElem Bw]
    exact zd (hx _ (List.getElem_mem Bw))
  exact this _ (Nat.le_refl _)
 ·rw [ha]
  refine DG hx ?_ h1 aj
  rw [qG];omega
def lu:List Int->Nat->List fH->Option (List Int)
 | fr,_,[]=>some fr
 | fr,c,x::l=>if mY fr c x=0 then lu (lS fr x) (c+1) l else none
theorem nm:∀(l m:List fH) (fr:List Int) (c:Nat),lu fr c (l++m)=(lu fr c l).bind fun f=>lu f (c+l.length) m
 | [],m,fr,c=>rfl
 | x::l,m,fr,c=>by
  show (if mY fr c x=0 then lu (lS fr x) (c+1) (l++m) else none)=(if mY fr c x=0 then lu (lS fr x) (c+1) l else none).bind _
  split
  ·rw [nm l m,show c+1+l.length=c+(x::l).length by rw [List.length_cons];omega]
  ·rfl
theorem DT (l:List fH):∀n,n≤l.length-> ∀fr,lu [] 0 (l.take n)=some fr->vF l n=fr∧ff (vE l) n=0
 | 0,_,fr,h=>⟨by injection h,rfl⟩
 | n+1,hn,fr,h=>by
  have e:l.take (n+1)=l.take n++ [l.getD n default]:=by
   rw [List.take_add_one,List.getD_eq_getElem?_getD,List.getElem?_eq_getElem aj];rfl
  rw [e,nm] at h
  cases h1:lu [] 0 (l.take n) with
  | none=>rw [h1] at h;cases h
  | some g =>
   obtain ⟨i1,i2⟩:=DT l n aj g h1
   rw [h1] at h
   have h:(if mY g (0+(l.take n).length) (l.getD n default)=0 then some (lS g (l.getD n default)) else none)=some fr:=h
   rw [List.length_take,Nat.min_eq_left aj,Nat.zero_add] at h
   split at h
   ·rename_i q
    injection h with h
    exact ⟨by show lS (vF l n) _=_;rw [i1,h],by show (if _ then _ else _)=_;rw [if_neg aj];show mY (vF l n) n _=0;rw [i1];exact q⟩
   ·cases h
theorem J0 {l:List fH} (h0:0<l.length) (h:lu [] 0 l=some []):eU l=0:=by
 obtain ⟨h1,h2⟩:=DT l l.length (Nat.le_refl _) [] (by rw [List.take_length];exact h)
 unfold eU
 rw [if_neg aj,if_pos ⟨h0,by rw [h1];rfl⟩]
theorem rm (f:List Int) (k:Int):(f++ [k]).getD ((f++ [k]).length-1) 0=k:=by
 rw [List.length_append,show f.length+ [k].length-1=f.length from Nat.add_sub_cancel ..]
 simp [List.getD_eq_getElem?_getD]
theorem wU (f:List Int) (k:Int):mJ (f++ [k])=f++ [k-1]:=by
 unfold mJ
 rw [if_neg (by simp),rm,List.length_append,show f.length+ [k].length-1=f.length from Nat.add_sub_cancel ..]
 simp
theorem qU (f:List Int) {k:Int} (h:k≠0):o9 (f++ [k])=f++ [k]:=by
 unfold o9
 have:lC (f++ [k]) (f++ [k]).length=(f++ [k]).length:=by
  rw [show (f++ [k]).length=f.length+1 by simp]
  show (if (f++ [k]).getD f.length 0=0 then _ else _)=_
  have:=rm f k
  rw [show (f++ [k]).length-1=f.length by simp] at this
  rw [this,if_neg h]
 rw [this,List.take_length]
theorem Ah (f g:List Int):∀n,n≤f.length->lC (f++g) n=lC f n
 | 0,_=>rfl
 | n+1,h=>by
  show (if (f++g).getD n 0=0 then lC (f++g) n else n+1)=(if f.getD n 0=0 then lC f n else n+1)
  rw [Ah f g n aj,List.getD_eq_getElem?_getD,List.getD_eq_getElem?_getD,List.getElem?_append_left aj]
theorem D5 (f:List Int):∀n,lC f n≤n
 | 0=>Nat.le_refl _
 | n+1=>by
  show (if f.getD n 0=0 then lC f n else n+1)≤_
  split
  ·have:=D5 f n;omega
  ·exact Nat.le_refl _
theorem Fj (f:List Int):o9 (f++ [0])=o9 f:=by
 unfold o9
 have:lC (f++ [0]) (f++ [0]).length=lC f f.length:=by
  rw [show (f++ [(0:Int)]).length=f.length+1 by simp]
  show (if (f++ [(0:Int)]).getD f.length 0=0 then lC (f++ [0]) f.length else _)=_
  have:=rm f 0
  rw [show (f++ [(0:Int)]).length-1=f.length by simp] at this
  rw [if_pos this,Ah f [0] _ (Nat.le_refl _)]
 rw [this,List.take_append_of_le_length (D5 f _)]
theorem DO {x:fH} (h:eT x) (f:List Int) (k:Int):lS (f++ [k]) x=if k=1 then o9 f else f++ [k-1]:=by
 have hk:=h.kind
 unfold lS lB
 rw [if_neg aj,wU]
 by_cases e:k=1
 ·rw [if_pos e,e];exact Fj f
 ·rw [if_neg e];exact qU f aj
theorem Mp (f:List Int) (k:Int) {n:UInt64} (h:0<wv n):lS (f++ [k]) (bD n)=f++ [k-1]++ [wv n]:=by
 unfold lS lB
 rw [if_pos ⟨rfl,h⟩,wU]
 have h':wv n≠0:=aj
 exact qU _ h'
theorem HU {fr:List Int} {c:Nat} {n:UInt64} (h1:c=0∨fr.length≠0) (h2:c<512) (h3:fr.length≤8) (hn:wv n≤512):mY fr c (bD n)=0:=by
 have ha:dW c fr.length 5=0:=by unfold dW;rw [if_neg aj,if_neg aj,if_neg aj]
 unfold mY
 rw [if_neg aj,if_neg (by show ¬dW c fr.length 5≠0;omega),if_neg (by show ¬gQ (bD n)=false;have:gQ (bD n)=true:=rfl;rw [this];decide),if_neg (by show ¬1024<0;decide),if_neg (by rintro ⟨-,q⟩;have q:512<wv n:=q;omega)]
 rfl
theorem tN {f:List Int} (hf:f.length≤6):∀ {xs:List fH} {k:Int} {c:Nat},(∀x∈xs,eT x)->(xs.length:Int)<k->c+xs.length≤500->lu (f++ [k]) c xs=some (f++ [k-xs.length])
 | [],k,c,_,_,_=>by show some (f++ [k])=some (f++ [k-((0:Nat):Int)]);simp
 | x::xs,k,c,hx,hk,hc=>by
  have Ok:c+(xs.length+1)≤500:=hc
  have r9:((xs.length+1:Nat):Int)<k:=hk
  have hl:=hx x (List.mem_cons_self ..)
  show (if mY (f++ [k]) c x=0 then lu (lS (f++ [k]) x) (c+1) xs else none)=_
  rw [if_pos (s6 hl (.inr (by simp)) aj (by simp;omega)),DO hl,if_neg aj,tN hf (fun y hy=>hx y (List.mem_cons_of_mem _ hy)) aj aj]
  show some (f++ [k-1-(xs.length:Int)])=some (f++ [k-((xs.length+1:Nat):Int)])
  rw [show k-((xs.length+1:Nat):Int)=k-1-xs.length by omega]
theorem tO {f:List Int} (hf:f.length≤6):∀ {xs:List fH} {c:Nat},(∀x∈xs,eT x)->0<xs.length->c+xs.length≤500->lu (f++ [(xs.length:Int)]) c xs=some (o9 f)
 | [],_,_,h,_=>by cases h
 | x::xs,c,hx,_,hc=>by
  have Ok:c+(xs.length+1)≤500:=hc
  have hl:=hx x (List.mem_cons_self ..)
  show (if mY (f++ [((xs.length+1:Nat):Int)]) c x=0 then lu (lS (f++ [((xs.length+1:Nat):Int)]) x) (c+1) xs else none)=_
  rw [if_pos (s6 hl (.inr (by simp)) aj (by simp;omega)),DO hl]
  by_cases e:xs.length=0
  ·rw [if_pos aj,List.eq_nil_of_length_eq_zero e];rfl
  ·rw [if_neg aj,show ((xs.length+1:Nat):Int)-1=xs.length by omega]
   exact tO hf (fun y hy=>hx y (List.mem_cons_of_mem _ hy)) aj aj
theorem wj {f:List Int} (hf:f.length≤4) {xs:List fH} {k:Int} {c:Nat} {n:UInt64} (hx:∀x∈xs,eT x) (hn:wv n=xs.length) (h1:0<xs.length) (hk:1<k) (hc:c+xs.length≤400):lu (f++ [k]) c (bD n::xs)=some (f++ [k-1]):=by
 show (if mY (f++ [k]) c (bD n)=0 then lu (lS (f++ [k]) (bD n)) (c+1) xs else none)=_
 rw [if_pos (HU (.inr (by simp)) aj (by simp;omega) aj),Mp _ _ aj,hn,tO (by simp;omega) hx h1 aj,qU _ aj]
theorem G8 {n:UInt64} (l:List fH) (h:0<wv n) (h2:wv n≤512):lu [] 0 (bD n::l)=lu ([]++ [wv n]) 1 l:=by
 show (if mY [] 0 (bD n)=0 then lu (lS [] (bD n)) 1 l else none)=_
 rw [if_pos (HU (.inl rfl) aj (by simp) h2),DP h];rfl
def bB (h:Int):Prop:=h<0∨4<h
instance (h:Int):Decidable (bB h):=inferInstanceAs (Decidable (_∨_))
theorem h_ (h:Int):bL Tryz.prog 87 [ai h] (ao (decide (bB h))):=by
 by_cases h1:h<0
 ·have e:decide (bB h)=true:=decide_eq_true (.inl h1)
  refine zO Tryz.func87 9<|zP 2 [{},{}] [.aa [2,0] []] (yM 3 (yT (h<0)))<|zR (zV [yB (Value.bool true=Value.bool (decide (bB h))) (by rw [e])])
 ·by_cases h2:h>4
  ·have e:decide (bB h)=true:=decide_eq_true (.inr h2)
   refine zO Tryz.func87 9<|zP 2 [{},yH ([(5,{b:=false})]++yg [3,4])] [.aa [2,0] []] (yM 3 (yF (h<0)))<|zR (zV [yB (Value.bool (decide (h>4))=Value.bool (decide (bB h))) (by rw [e,decide_eq_true h2])])
  ·have e:decide (bB h)=false:=decide_eq_false (by rintro (h|h)<;>omega)
   refine zO Tryz.func87 9<|zP 2 [{},yH ([(5,{b:=false})]++yg [3,4])] [.aa [2,0] []] (yM 3 (yF (h<0)))<|zR (zV [yB (Value.bool (decide (h>4))=Value.bool (decide (bB h))) (by rw [e,decide_eq_false h2])])
theorem b_ (h:Int):bL Tryz.prog 91 [ai h] (ao (!decide (bB h))):=by
 by_cases h1:h<0
 ·have e:decide (bB h)=true:=decide_eq_true (.inl h1)
  refine zO Tryz.func91 9<|zP 2 [{},yH ([(5,{b:=false})]++yg [3,4])] [.aa [2,0] []] (yM 3 (yF (h≥0)))<|zR (zV [yB (Value.bool false=Value.bool !decide (bB h)) (by rw [e];rfl)])
 ·by_cases h2:h>4
  ·have e:decide (bB h)=true:=decide_eq_true (.inr h2)
   refine zO Tryz.func91 9<|zP 2 [{},{}] [.aa [2,0] []] (yM 3 (yT (h≥0)))<|zR (zV [yB (Value.bool (decide (h≤4))=Value.bool !decide (bB h)) (by rw [e,decide_eq_false aj];rfl)])
  ·have e:decide (bB h)=false:=decide_eq_false (by rintro (h|h)<;>omega)
   refine zO Tryz.func91 9<|zP 2 [{},{}] [.aa [2,0] []] (yM 3 (yT (h≥0)))<|zR (zV [yB (Value.bool (decide (h≤4))=Value.bool !decide (bB h)) (by rw [e,decide_eq_true aj];rfl)])
def eZ (h:Int):Int:=if bB h then 9 else 0
def dk (h:Int) (r:UInt64):List UInt8:=if bB h then [] else u8 h::words [r]
def gR (lv:Int) (a b:UInt64):UInt64:=hash 3 (words [u64 lv,a,b])
theorem pa (lv:Int) (a b:UInt64):bL Tryz.prog 144 [ai lv,aw a,aw b] (aw (gR lv a b)):=by
 refine zO Tryz.func144 14<|zP 2 [{},yH [(1,yV (aw (u64 lv))),(4,yV (AV.arr (ah [u64 lv,a,b]))),(5,yV (AV.own 1 (ag (words [u64 lv,a,b])))),(6,yV (aw (hash (3:Int) (words [u64 lv,a,b]))))]] [.aa [6,0,1,2] []] [yI (aY lv),yR (ah [u64 lv,a,b]),yI (lM [u64 lv,a,b] (by simp only [List.length_cons,List.length_nil];omega)),yI (aR (words [u64 lv,a,b])),yI (nI ((3:Int)) (words [u64 lv,a,b]))]<|zR (bR)
theorem ly (lv:Int) (a b:UInt64):bL Tryz.prog 115 [ai lv,aw a,aw b] (aw (gR lv a b)):=by
 refine zO Tryz.func115 14<|zP 2 [{},yH [(1,yV (aw (u64 lv))),(4,yV (AV.arr (ah [u64 lv,a,b]))),(5,yV (AV.own 1 (ag (words [u64 lv,a,b])))),(6,yV (aw (hash (3:Int) (words [u64 lv,a,b]))))]] [.aa [6,0,1,2] []] [yI (aY lv),yR (ah [u64 lv,a,b]),yI (dE [u64 lv,a,b] (by simp only [List.length_cons,List.length_nil];omega)),yI (aR (words [u64 lv,a,b])),yI (iy ((3:Int)) (words [u64 lv,a,b]) (by simp only [List.length_cons,List.length_nil,dX];omega))]<|zR (bR)
def fU (seed:UInt64):Nat->Nat->UInt64
 | 0,i=>combine i (bG seed i 18)
 | lv+1,i=>gR ((lv+1:Nat):Int) (fU seed lv (2*i)) (fU seed lv (2*i+1))
theorem rU (seed:UInt64) (lv:Nat):∀(i:Nat),lv≤4->i<2^(40-lv)->bL Tryz.prog 103 [aw seed,ai lv,ai i] (aw (fU seed lv i)):=by
 induction lv with
 | zero =>
  intro i _ hi
  refine zO Tryz.func103 27<|zq<|zS<|zq<|dB 8 ((↑(0:Nat):Int) == (0:Int)) fg<|zP 1 [yH [(2,yV (aw (combine (↑i:Int) (bG seed (↑i:Int) 18))))]] [.aa [6,8,0,1,2] []] [yI (z6 seed ((↑i:Int)))]<|dn (bR)
 | succ lv ih =>
  intro i hl hi
  have e:2^(40-lv)=2*2^(40-(lv+1)):=by rw [show 40-lv=40-(lv+1)+1 by omega,Nat.pow_succ,Nat.mul_comm]
  have hp:2^(40-(lv+1))≤2^40:=Nat.pow_le_pow_right (by decide) aj
  obtain ⟨j,hj⟩:∃j:Nat,2*i=j:=⟨_,rfl⟩
  obtain ⟨j2,Bw⟩:∃j2:Nat,2*i+1=j2:=⟨_,rfl⟩
  have h1:=ih j aj aj
  have h2:=ih j2 aj aj
  clear ih
  generalize 2^(40-lv)=p1 at *
  generalize 2^(40-(lv+1))=p2 at *
  have ew:fU seed (lv+1) i=gR ((lv+1:Nat):Int) (fU seed lv j) (fU seed lv j2):=by rw [←hj,←Bw];rfl
  rw [ew]
  generalize fU seed lv j=n1 at *
  generalize fU seed lv j2=n2 at *
  have e1:IntKind.i64.wrap (((lv+1:Nat):Int)-1)=(lv:Int):=by rw [IntKind.wrap_i64];omega
  have e2:IntKind.i64.wrap (2*(i:Int))=(j:Int):=by rw [IntKind.wrap_i64];omega
  have e3:IntKind.i64.wrap ((j:Int)+1)=(j2:Int):=by rw [IntKind.wrap_i64];omega
  refine zO Tryz.func103 27<|zq<|zS<|zq<|bn 8 ((↑(lv+1):Int) == (0:Int)) bE<|a_<|zP 1 [yH [(3,yV (ai ↑lv)),(5,yV (ai ↑j)),(6,yV (aw n1)),(9,yV (ai ↑lv)),(11,yV (ai ↑j)),(12,yV (ai ↑j2)),(13,yV (aw n2)),(14,yV (aw (gR (↑(lv+1):Int) n1 n2)))]] [.aa [6,8,0,1,2] []] [yB (ai (IntKind.i64.wrap ((↑(lv+1):Int)-1))=ai ↑lv) (congrArg (fun n=>AV.val (.int .i64 n)) e1),yB (ai (IntKind.i64.wrap ((2:Int)*(↑i:Int)))=ai ↑j) (congrArg (fun n=>AV.val (.int .i64 n)) e2),yI h1,yB (ai (IntKind.i64.wrap ((↑(lv+1):Int)-1))=ai ↑lv) (congrArg (fun n=>AV.val (.int .i64 n)) e1),yB (ai (IntKind.i64.wrap ((2:Int)*(↑i:Int)))=ai ↑j) (congrArg (fun n=>AV.val (.int .i64 n)) e2),yB (ai (IntKind.i64.wrap ((↑j:Int)+1))=ai ↑j2) (congrArg (fun n=>AV.val (.int .i64 n)) e3),yI h2,yI (ly (↑(lv+1):Int) n1 n2)]<|zR (bR)
end Go.Proofs.YtjgbhhnghedgdaaGreatDoor
