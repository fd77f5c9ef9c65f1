import Derived.Test.YtjgbhhnghedgdaaGreatDoorZsGrB3
set_option linter.all false
namespace Go.Proofs.YtjgbhhnghedgdaaGreatDoor
open Go.RowKit
set_option maxRecDepth 100000
set_option maxHeartbeats 4000000
theorem B5 (m:Mem) (h:List UInt8):bK Tryz.prog 111 [.agg (aP m),.ptr [dw h] 0] (ao (m.name == h)):=by
 refine zO Tryz.func111 8<|zP 2 [{},yH [(3,yV (ao (m.name == h)))]] [.aa [3,2,0,1] [2]] [yI (fg m.name h)]<|zR (cE)
theorem B7 (l:List Mem) (h:List UInt8) (A9:l.length≤1000000):bK Tryz.prog 110 [.sl 4 (af aP l),.lu 111 [.ptr [dw h] 0]] (ai (eS l h)):=by
 have hl:(af aP l).length=l.length*4:=aG (e:=4) (fun _=>rfl) ..
 refine zO Tryz.func110 19<|zq<|zS<|zQ 1 [yH [(1,{k:=l.length})]] [yI hl]<|zB 0 (zL (fun (i:Nat)=>(⟨[(7,ai (↑l.length:Int)),(0,AV.sl 4 (af aP l)),(1,AV.lu 111 [AV.ptr [dw h] 0]),(8,ai i)],[]⟩:AS)) (fun i=>(i≤l.length∧ ∀j,j<i->(l.getD j default).name≠h)) (fun i=>(l.length-i)) (0) ?_ (zW [.aa [7,0,1,8] []]) ?_)
 ·exact ⟨ah,ah⟩
 rintro i ⟨hi,gu⟩
 refine zq<|zS (zD 9 ((↑i:Int)<(↑l.length:Int)) (fun g=>?_) (fun g=>?_))
 ·have dM:i<l.length:=ah
  have hc:=B5 (l.getD i default) h
  by_cases e:(l.getD i default).name=h
  ·have hf:=DD dM gu e
   refine a8<|zS<|zB 1<|zP 2 [{},yH [(3,{k:=i}),(4,yV (AV.agg (aP (l.getD i default)))),(5,yV (ao ((l.getD i default).name == h)))]] [.aa [16,5,9,7,0,1,8] []] [yR (↑i:Int),yO (i*4<(af aP l).length),yu aP l i 0 4,yR 4,yI hc]<|dQ 16 ((l.getD i default).name == h) (by simp_all)<|zq<|zR<|bl<|aW<|fD<|bl<|aW (zV [yJ (↑i:Int) (eS l h) (by rw [hf])])
  ·skip
   refine a8<|zS<|zB 1<|zP 2 [{},yH [(3,{k:=i}),(4,yV (AV.agg (aP (l.getD i default)))),(5,yV (ao ((l.getD i default).name == h)))]] [.aa [16,5,9,7,0,1,8] []] [yR (↑i:Int),yO (i*4<(af aP l).length),yu aP l i 0 4,yR 4,yI hc]<|bo 16 ((l.getD i default).name == h) (by simp_all)<|zK<|aM<|ak<|zX (yH [(0,yV (ai ((↑i:Int)+1)))]) [yN ((↑i:Int)+1)] (aI (i+1) ⟨ah,fun j hj=>by by_cases e2:j=i;(subst e2;exact e);exact gu j ah⟩ ah (zW [.aa [7,0,1,8] []]))
 ·have hf:=DB (l:=l) (h:=h) (fun j hj=>gu j ah)
  refine zE 0<|aY<|aN<|bm<|ak<|zq<|zR (zV [yJ (-1:Int) (eS l h) (by rw [hf])])
theorem nq (g:fL) (h:List UInt8) (A9:g.al.length≤1000000):bK Tryz.prog 61 [.agg (bW g),dw h] (ai (eS g.al h)):=by
 refine zO Tryz.func61 9<|zP 2 [{},yH [(3,yV (ai (eS g.al h)))]] [.aa [4,3,2,0,1] [2]] [yI (B7 g.al h A9)]<|zR (cE)
def Jz (l:List nC) (p:UInt64):Int:=if uB l p<l.length then (uB l p:Int) else -1
theorem o9 {l:List fW} {i:Nat} (h:i<l.length):List.take 4 (List.drop (i*4) (af bp l))=bp (l.getD i default):=kj (e:=4) (fun _=>rfl) h
theorem m7 {l:List Mem} {n:List UInt8} {k:Nat} (h:eS l n=k):Kc l n=l.getD k default:=by unfold Kc;rw [h];rfl
def J5 (l:List fW) (i:Nat):Prop:=0<i∧Hn (l.getD i default).name (l.getD (i-1) default).name=true
theorem QS {g:fL} {w:UInt64} {l:List fW} {i:Nat} (h:J5 l i):jt g w l i=7:=if_pos h
theorem Ou {g:fL} {w:UInt64} {l:List fW} {i:Nat} (h:¬J5 l i) (h2:eS g.al (l.getD i default).name<0):jt g w l i=11:=(if_neg h).trans (if_pos h2)
section
variable {g:fL} {w:UInt64} {l:List fW} {i k:Nat} (h:¬J5 l i) (h2:eS g.al (l.getD i default).name=k)
include h h2
theorem L8 {e:Int} (he:nX (g.al.getD k default).h (g.al.getD k default).r w (l.getD i default).leaf (l.getD i default).kM (l.getD i default).path=e) (h0:e≠0):jt g w l i=e:=by
 refine (if_neg h).trans ?_;rw [if_neg ah,m7 h2,he,if_pos h0]
theorem C9 (he:nX (g.al.getD k default).h (g.al.getD k default).r w (l.getD i default).leaf (l.getD i default).kM (l.getD i default).path=0):jt g w l i=if (g.al.getD k default).used&&&fJ (l.getD i default).leaf≠0 then 37 else 0:=by
 refine (if_neg h).trans ?_;rw [if_neg ah,m7 h2,he,if_neg ah]
end
theorem sv {g:fL} {w:UInt64} {l:List fW} {i:Nat} (hi:i<l.length) (h0:ff (jt g w l) i=0) {e:Int} (he:jt g w l i=e) (hn:e≠0):iv g w l=e:=by
 have k2:ff (jt g w l) (i+1)=e:=by show (if _ then _ else _)=_;rw [if_neg ah,he]
 have:=mn hn k2 l.length hi
 unfold iv
 rw [this,if_pos hn]
theorem I3 (g:fL) (w:UInt64) (V:List fW) (hm:g.al.length≤1000) (hv:V.length≤1000000):bK Tryz.prog 58 [.agg (bW g),.sl 4 (af bp V),aw w] (ai (iv g w V)):=by
 have E1:(af bp V).length=V.length*4:=aG (e:=4) (fun _=>rfl) ..
 have nj:(af aP g.al).length=g.al.length*4:=aG (e:=4) (fun _=>rfl) ..
 refine zO Tryz.func58 68<|zq<|zS<|zQ 1 [yH [(1,{k:=V.length})]] [yI E1]<|zB 0 (zL (fun (i:Nat)=>(⟨[(12,ai (↑V.length:Int)),(11,AV.sl 4 (af bp V)),(3,AV.addr 3 0),(0,AV.agg (bW g)),(1,AV.sl 4 (af bp V)),(2,aw w),(13,ai i)],[(3,⟨1,false,true,List.map (aQ 3) (bW g)⟩)]⟩:AS)) (fun i=>(i≤V.length∧ff (jt g w V) i=0)) (fun i=>(V.length-i)) (0) ?_ (zW [.aa [12,11,3,0,1,2,13] [3]]) ?_)
 ·exact ⟨ah,rfl⟩
 rintro i ⟨hi,h0⟩
 refine zq<|zS (zD 14 ((↑i:Int)<(↑V.length:Int)) (fun q=>?_) (fun q=>?_))
 ·have dM:i<V.length:=ah
  have ix:=o9 dM
  refine a8<|zS<|zB 1<|zP 1 [yH [(1,{k:=i}),(2,yV (AV.agg (bp (V.getD i default))))]] [.aa [7,8,14,12,11,3,0,1,2,13] [8,3]] [yR (↑i:Int),yO (i*4<(af bp V).length),yu bp V i 0 4,yR 4,yL 4 4] (a7.pE (fun (u:Unit)=>(⟨[(7,ai ↑i),(8,AV.addr 8 0),(14,ao (decide ((↑i:Int)<(↑V.length:Int)))),(12,ai (↑V.length:Int)),(11,AV.sl 4 (af bp V)),(3,AV.addr 3 0),(0,AV.agg (bW g)),(1,AV.sl 4 (af bp V)),(2,aw w),(13,ai ↑i)],[(8,⟨1,false,true,(bp (V.getD i default))⟩),(3,⟨1,false,true,List.map (aQ 8) (List.map (aQ 3) (bW g))⟩)]⟩:AS)) (fun u=>(¬J5 V i)) bH ?_ ?_)
  ·by_cases c6:0<i
   ·obtain ⟨k,hk⟩:∃k,k+1=i:=⟨i-1,ah⟩
    have Am:=o9 (l:=V) (i:=k) ah
    have ek:i-1=k:=ah
    by_cases c7:Hn (V.getD i default).name (V.getD k default).name=true
    ·have k1:=sv dM h0 (QS (g:=g) (w:=w) ⟨c6,by rw [ek];exact c7⟩) ah
     refine zP 1 [{hs:=[(7,yV (ai ↑k)),(8,{k:=k}),(10,yV (dw (V.getD k default).name))],T:=11}] [.aa [30,7,8,14,12,11,3,0,1,2,13] [8,3]] (yM 5 (yT ((↑i:Int)>0))++ [yB (ai (IntKind.i64.wrap ((↑i:Int)-1))=ai ↑k) (congrArg (fun n=>AV.val (.int .i64 n)) (by rw [IntKind.wrap_i64];omega)),yT ((↑i:Int)>0),yR (↑k:Int),yO (k*4<(af bp V).length)]++yM 2 (yT ((↑i:Int)>0))++ [yA bp V k 0]++yM 2 (yT ((↑i:Int)>0)))<|dQ 30 (Op.bytesLess (ByteArray.mk (V.getD i default).name.toArray).toList (ByteArray.mk (V.getD k default).name.toArray).toList || (ByteArray.mk (V.getD i default).name.toArray).toList == (ByteArray.mk (V.getD k default).name.toArray).toList) (by assumption)<|zq<|dW<|bl<|aW<|fD<|bl<|aW (zV [yJ 7 (iv g w V) (by rw [k1])])
    ·have c9:Hn (V.getD i default).name (V.getD k default).name=false:=by simpa using c7
     refine zP 1 [{hs:=[(7,yV (ai ↑k)),(8,{k:=k}),(10,yV (dw (V.getD k default).name))],T:=11}] [.aa [30,7,8,14,12,11,3,0,1,2,13] [8,3]] (yM 5 (yT ((↑i:Int)>0))++ [yB (ai (IntKind.i64.wrap ((↑i:Int)-1))=ai ↑k) (congrArg (fun n=>AV.val (.int .i64 n)) (by rw [IntKind.wrap_i64];omega)),yT ((↑i:Int)>0),yR (↑k:Int),yO (k*4<(af bp V).length)]++yM 2 (yT ((↑i:Int)>0))++ [yA bp V k 0]++yM 2 (yT ((↑i:Int)>0)))<|bo 30 (Op.bytesLess (ByteArray.mk (V.getD i default).name.toArray).toList (ByteArray.mk (V.getD k default).name.toArray).toList || (ByteArray.mk (V.getD i default).name.toArray).toList == (ByteArray.mk (V.getD k default).name.toArray).toList) (by assumption)<|a8 (⟨(),(fun q=>by have:=q.2;rw [ek] at this;exact c7 this),(zW [.aa [7,8,14,12,11,3,0,1,2,13] [8,3]])⟩)
   ·skip
    refine zP 1 [{hs:=[(3,{g:=false}),(4,{g:=false}),(5,{g:=false}),(6,{g:=false}),(7,{g:=false}),(8,{g:=false}),(9,{g:=false}),(10,{g:=false}),(11,{g:=false}),(12,{b:=false})],T:=11}] [.aa [30,7,8,14,12,11,3,0,1,2,13] [8,3]] (yM 10 (yF ((↑i:Int)>0)))<|zF 30<|a8 (⟨(),(fun q=>c6 q.1),(zW [.aa [7,8,14,12,11,3,0,1,2,13] [8,3]])⟩)
  intro u hu
  have si:=nq g (V.getD i default).name ah
  rcases fP g.al (V.getD i default).name with hk|⟨k,hk,iw,Jr⟩
  ·have k1:=sv dM h0 (Ou (g:=g) (w:=w) hu ah) ah
   rw [hk] at si
   refine zP 1 [yH [(3,yV (ai (-1:Int)))]] [.aa [9,7,8,14,12,11,3,0,1,2,13] [8,3]] [yI si]<|zS<|zq<|jO 36 ((-1:Int)<0)<|zq<|dW<|bl<|aW<|fD<|bl<|aW (zV [yJ 11 (iv g w V) (by rw [k1])])
  have RA:=l_ iw
  rw [hk] at si
  have Qi:=Be (g.al.getD k default).h (g.al.getD k default).r w (V.getD i default).leaf (V.getD i default).kM (V.getD i default).path
  by_cases cv:nX (g.al.getD k default).h (g.al.getD k default).r w (V.getD i default).leaf (V.getD i default).kM (V.getD i default).path=0
  case neg =>
   have k1:=sv dM h0 (L8 hu hk rfl cv) cv
   refine zP 1 [yH [(3,yV (ai ↑k))]] [.aa [9,7,8,14,12,11,3,0,1,2,13] [8,3]] [yI si]<|zS<|zQ 1 [yH [(1,yV (ao false))]] [yR (ao false)]<|zF 36<|a8<|zS<|zP 2 [{hs:=[(3,{k:=k}),(5,yV (AV.agg [ai ((g.al.getD k default).h),aw ((g.al.getD k default).r)])),(9,yV (ai (nX (g.al.getD k default).h (g.al.getD k default).r w (V.getD i default).leaf (V.getD i default).kM (V.getD i default).path)))],T:=9},{}] [.aa [48,10,36,9,7,8,14,12,11,3,0,1,2,13] [8,3]] [yR (↑k:Int),yO (k*4<(af aP g.al).length),yu aP g.al k 1 2,yR 2,yI Qi]<|dQ 48 (nX (g.al.getD k default).h (g.al.getD k default).r w (V.getD i default).leaf (V.getD i default).kM (V.getD i default).path != (0:Int)) (by simp_all)<|zP 1 [{}] [.aa [6,48,10,36,9,7,8,14,12,11,3,0,1,2,13] [8,3]] []<|dW<|bl<|aW<|fD<|bl<|aW (zV [yJ (nX (g.al.getD k default).h (g.al.getD k default).r w (V.getD i default).leaf (V.getD i default).kM (V.getD i default).path) (iv g w V) (by rw [k1])])
  have LD:=yy cv
  have hr:=C9 hu hk cv
  rw [cv] at Qi
  by_cases cu:(g.al.getD k default).used&&&fJ (V.getD i default).leaf=0
  ·rw [if_neg (fun q=>q cu)] at hr
   refine zP 1 [yH [(3,yV (ai ↑k))]] [.aa [9,7,8,14,12,11,3,0,1,2,13] [8,3]] [yI si]<|zS<|zq<|dK 36 ((↑k:Int)<0)<|a8<|zS<|zP 2 [{hs:=[(3,{k:=k}),(5,yV (AV.agg [ai ((g.al.getD k default).h),aw ((g.al.getD k default).r)])),(9,yV (ai 0))],T:=9},{}] [.aa [48,10,36,9,7,8,14,12,11,3,0,1,2,13] [8,3]] [yR (↑k:Int),yO (k*4<(af aP g.al).length),yu aP g.al k 1 2,yR 2,yI Qi]<|zF 48<|a8<|zP 1 [{hs:=[(3,{k:=k}),(5,yV (aw ((g.al.getD k default).used))),(9,yV (aw (fJ (V.getD i default).leaf))),(10,yV (aw ((g.al.getD k default).used&&&fJ (V.getD i default).leaf))),(11,yV (ao false))],T:=10}] [.aa [61,48,10,36,9,7,8,14,12,11,3,0,1,2,13] [8,3]] [yR (↑k:Int),yO (k*4<(af aP g.al).length),yA aP g.al k 3,yB (AV.val (Value.int .u64 (IntKind.u64.wrap ((1:Int)*(2:Int)^min (V.getD i default).leaf.toNat IntKind.u64.bits)))=aw (fJ (V.getD i default).leaf)) (jq 1 _ LD.1 ah),yO ((0:Int)≤(V.getD i default).leaf),yI (iN ((g.al.getD k default).used) (fJ (V.getD i default).leaf)),yB (ao (wv ((g.al.getD k default).used&&&fJ (V.getD i default).leaf) != (0:Int))=ao false) (by rw [cu];rfl)]<|zF 61<|zK<|aM<|ak<|zX (yH [(0,yV (ai ((↑i:Int)+1)))]) [yN ((↑i:Int)+1)] (aI (i+1) ⟨ah,by show (if _ then _ else _)=_;rw [if_neg ah,hr]⟩ ah (zW [.aa [12,11,3,0,1,2,13] [3]]))
  ·rw [if_pos cu] at hr
   have k1:=sv dM h0 hr ah
   refine zP 1 [yH [(3,yV (ai ↑k))]] [.aa [9,7,8,14,12,11,3,0,1,2,13] [8,3]] [yI si]<|zS<|zq<|dK 36 ((↑k:Int)<0)<|a8<|zS<|zP 2 [{hs:=[(3,{k:=k}),(5,yV (AV.agg [ai ((g.al.getD k default).h),aw ((g.al.getD k default).r)])),(9,yV (ai 0))],T:=9},{}] [.aa [48,10,36,9,7,8,14,12,11,3,0,1,2,13] [8,3]] [yR (↑k:Int),yO (k*4<(af aP g.al).length),yu aP g.al k 1 2,yR 2,yI Qi]<|zF 48<|a8<|zP 1 [{hs:=[(3,{k:=k}),(5,yV (aw ((g.al.getD k default).used))),(9,yV (aw (fJ (V.getD i default).leaf))),(10,yV (aw ((g.al.getD k default).used&&&fJ (V.getD i default).leaf))),(11,yV (ao ((g.al.getD k default).used&&&fJ (V.getD i default).leaf != 0)))],T:=10}] [.aa [61,48,10,36,9,7,8,14,12,11,3,0,1,2,13] [8,3]] [yR (↑k:Int),yO (k*4<(af aP g.al).length),yA aP g.al k 3,yB (AV.val (Value.int .u64 (IntKind.u64.wrap ((1:Int)*(2:Int)^min (V.getD i default).leaf.toNat IntKind.u64.bits)))=aw (fJ (V.getD i default).leaf)) (jq 1 _ LD.1 ah),yO ((0:Int)≤(V.getD i default).leaf),yI (iN ((g.al.getD k default).used) (fJ (V.getD i default).leaf)),yI (cU ((g.al.getD k default).used&&&fJ (V.getD i default).leaf) 0)]<|dQ 61 ((g.al.getD k default).used&&&fJ (V.getD i default).leaf != 0) (by simp_all)<|zq<|zR<|bl<|aW<|fD<|bl<|aW (zV [yJ 37 (iv g w V) (by rw [k1])])
 ·have e:i=V.length:=ah
  subst e
  refine zE 0<|aY<|aN<|bm<|ak<|zS<|zP 1 [yH [(1,{k:=V.length})]] [.aa [67,14,12,11,3,0,1,2,13] [3]] [yI E1] (zD 67 ((↑V.length:Int)<g.bB) (fun q2=>?_) (fun q2=>?_))
  ·skip
   refine zq<|dW (zV [yJ 41 (iv g w V) (by unfold iv;rw [if_neg ah,if_pos ah])])
  ·skip
   refine a8<|zq<|zR (zV [yJ 0 (iv g w V) (by unfold iv;rw [if_neg ah,if_neg ah])])
structure oZ (g:fL):Prop where
 Vz:0≤g.aC
 Su:g.aC≤2147483647
 m8:g.al.length≤8
 t0:0≤g.bB
 t1:g.bB≤8
 d8:g.aF.length≤8
theorem Ed {l:List nC} {i:Nat} (h:i<l.length):List.take 7 (List.drop (i*7) (af bg l))=bg (l.getD i default):=kj (e:=7) (fun _=>rfl) h
theorem IM {l:List nC} {k:Nat} (hk:k<l.length) (t:UInt64):(af bg l).set (k*7+6) (aw t)=af bg (qv l k t):=by
 unfold qv
 induction l generalizing k with
 | nil=>cases hk
 | cons m l ih =>
  cases k with
  | zero=>rfl
  | succ k =>
   have:=ih (k:=k) (by simpa using hk)
   rw [show (k+1)*7+6=k*7+6+7 by omega]
   show bg m++(af bg l).set (k*7+6) (aw t)=bg m++af bg (l.set k {l.getD k default with target:=t})
   rw [this]
theorem wx (l:List nC) (p:UInt64):(uB l p=l.length∧Jz l p= -1)∨ ∃k:Nat,uB l p=k∧Jz l p=k∧k<l.length:=by
 unfold Jz
 by_cases h:uB l p<l.length
 ·exact .inr ⟨_,rfl,if_pos h,h⟩
 ·have:uB l p≤l.length:=List.findIdx_le_length
  exact .inl ⟨ah,if_neg h⟩
theorem gL (n:UInt64):bK Tryz.prog 83 [aw n] (.agg (aU (aE n))):=by
 refine zO Tryz.func83 5<|zP 2 [{},{}] [.aa [2,0] [2]] [yL 3 3]<|zR (cE)
theorem qu (b:List UInt8):bK Tryz.prog 130 [dw b] (.agg (aU (b_ b))):=by
 refine zO Tryz.func130 5<|zP 2 [{},{}] [.aa [2,0] [2]] [yL 3 3]<|zR (cE)
theorem vT (b:List UInt8) (hb:b.length≤1000000):bK Tryz.prog 131 [.sl 1 (ag b)] (.agg (aU (dC b))):=by
 refine zO Tryz.func131 6<|zP 2 [{},yH [(1,yV (dw b))]] [.aa [2,0] [2]] [yR (ag b),yL 3 3]<|zR (cE)
theorem tI (n:Int):bK Tryz.prog 81 [ai n] (.agg (aU (bz (u64 n)))):=by
 refine zO Tryz.func81 6<|zP 2 [{},yH [(1,yV (aw (u64 n)))]] [.aa [2,0] [2]] [yI (a6 n),yL 3 3]<|zR (cE)
def mG (x:fo):UInt64:=if x.kind=3∨x.kind=4 then u64 x.cC.length else x.num
theorem KX (x:fo) (h:x.kind=3∨x.kind=4∨x.cC= []):i_ x=cz (u8 (x.kind-1)) (mG x)++x.cC:=by
 unfold i_ mG
 by_cases c:x.kind=3∨x.kind=4
 ·rw [if_pos c,if_pos c]
 ·rw [if_neg c,if_neg c,show x.cC= [] by rcases h with h|h|h;exact absurd (.inl h) c;exact absurd (.inr h) c;exact h,List.append_nil]
theorem PY (n:UInt64):words [n]=ox n 8 8:=rfl
theorem KB {m:UInt8} {n:UInt64} (h:wv n<24):cz m n= [m<<<5+n.toUInt8]:=if_pos h
theorem MY {m:UInt8} {n:UInt64} (h1:¬wv n<24) (h:wv n<256):cz m n= [m<<<5+24,n.toUInt8]:=by unfold cz;rw [if_neg h1,if_pos h];simp [ox]
theorem MX {m:UInt8} {n:UInt64} (h1:¬wv n<256) (h:wv n<65536):cz m n= [m<<<5+25,(n>>>8).toUInt8,n.toUInt8]:=by unfold cz;rw [if_neg ah,if_neg h1,if_pos h];simp [ox,List.range_succ]
theorem MW {m:UInt8} {n:UInt64} (h1:¬wv n<65536) (h:wv n<4294967296):cz m n= [m<<<5+26,(n>>>24).toUInt8,(n>>>16).toUInt8,(n>>>8).toUInt8,n.toUInt8]:=by unfold cz;rw [if_neg ah,if_neg ah,if_neg h1,if_pos h];simp [ox,List.range_succ]
theorem MV {m:UInt8} {n:UInt64} (h1:¬wv n<4294967296):cz m n=(m<<<5+27)::words [n]:=by unfold cz;rw [if_neg ah,if_neg ah,if_neg ah,if_neg h1,PY]
theorem zi (x:fo) (hk:ea x.kind) (hd:x.cC.length≤100000):bK Tryz.prog 133 [.agg (aU x)] (.own 1 (ag (cz (u8 (x.kind-1)) (mG x)))):=by
 refine zO Tryz.func133 87<|zP 3 [{},{},{}] [.aa [4,3,2,1,0] [1]] [] (a7.pE (fun (p:UInt64×UInt8)=>(⟨[(1,AV.addr 1 0),(0,AV.agg (aU x)),(3,aw p.1),(4,ab p.2)],[(1,⟨1,false,true,List.map (aQ 1) (aU x)⟩)]⟩:AS)) (fun p=>(p=(mG x,u8 (x.kind-1)<<<5))) bH ?_ ?_)
 ·rcases hk with k|k|k|k
  ·have e:mG x=x.num:=if_neg ah
   have e2:u8 (x.kind-1)<<<5=0:=by rw [k];decide
   refine zq<|zB 0<|zP 1 [{}] [.aa [9,8,4,3,2,1,0] [1]] []<|bo 9 (x.kind == (7:Int)) bR<|zq<|bo 15 (x.kind == (8:Int)) bR<|zP 1 [{}] [.aa [18,15,9,8,4,3,2,1,0] [1]] []<|bo 18 (x.kind == (2:Int)) bR<|zq<|bo 20 (x.kind == (3:Int)) bR<|zP 1 [{}] [.aa [26,20,18,15,9,8,4,3,2,1,0] [1]] []<|bo 26 (x.kind == (4:Int)) bR<|zq<|bo 32 (x.kind == (5:Int)) bR<|zP 1 [{}] [.aa [34,32,26,20,18,15,9,8,4,3,2,1,0] [1]] []<|bo 34 (x.kind == (6:Int)) bR<|zK<|aM<|ak (⟨(mG x,u8 (x.kind-1)<<<5),rfl,(e_ [.aa [1,0,3,4] [1]] [3,4] [] [yB (aw x.num=aw (mG x)) (by rw [e]),yB (AV.val (Value.int .u8 0)=ab (u8 (x.kind-1)<<<(5:UInt8))) (by rw [e2];rfl)])⟩)
  ·have e:mG x=u64 x.cC.length:=if_pos (.inl k)
   have e2:u8 (x.kind-1)<<<5=64:=by rw [k];decide
   refine zq<|zB 0<|zP 1 [{}] [.aa [9,8,4,3,2,1,0] [1]] []<|bo 9 (x.kind == (7:Int)) bR<|zq<|bo 15 (x.kind == (8:Int)) bR<|zP 1 [{}] [.aa [18,15,9,8,4,3,2,1,0] [1]] []<|bo 18 (x.kind == (2:Int)) bR<|zq<|dQ 20 (x.kind == (3:Int)) fX<|zX ({hs:=[(2,yV (ai (↑x.cC.length:Int))),(3,yV (aw (u64 (↑x.cC.length:Int))))],T:=5}) [yR (ai (↑x.cC.length:Int)),yI (a6 ((↑x.cC.length:Int)))]<|aM<|ak (⟨(mG x,u8 (x.kind-1)<<<5),rfl,(e_ [.aa [1,0,3,4] [1]] [3,4] [] [yB (aw (u64 (↑x.cC.length:Int))=aw (mG x)) (by rw [e]),yB (AV.val (Value.int .u8 64)=ab (u8 (x.kind-1)<<<(5:UInt8))) (by rw [e2];rfl)])⟩)
  ·have e:mG x=u64 x.cC.length:=if_pos (.inr k)
   have e2:u8 (x.kind-1)<<<5=96:=by rw [k];decide
   refine zq<|zB 0<|zP 1 [{}] [.aa [9,8,4,3,2,1,0] [1]] []<|bo 9 (x.kind == (7:Int)) bR<|zq<|bo 15 (x.kind == (8:Int)) bR<|zP 1 [{}] [.aa [18,15,9,8,4,3,2,1,0] [1]] []<|bo 18 (x.kind == (2:Int)) bR<|zq<|bo 20 (x.kind == (3:Int)) bR<|zP 1 [{}] [.aa [26,20,18,15,9,8,4,3,2,1,0] [1]] []<|dQ 26 (x.kind == (4:Int)) fX<|zX ({hs:=[(2,yV (ai (↑x.cC.length:Int))),(3,yV (aw (u64 (↑x.cC.length:Int))))],T:=5}) [yR (ai (↑x.cC.length:Int)),yI (a6 ((↑x.cC.length:Int)))]<|aM<|ak (⟨(mG x,u8 (x.kind-1)<<<5),rfl,(e_ [.aa [1,0,3,4] [1]] [3,4] [] [yB (aw (u64 (↑x.cC.length:Int))=aw (mG x)) (by rw [e]),yB (AV.val (Value.int .u8 96)=ab (u8 (x.kind-1)<<<(5:UInt8))) (by rw [e2];rfl)])⟩)
  ·have e:mG x=x.num:=if_neg ah
   have e2:u8 (x.kind-1)<<<5=128:=by rw [k];decide
   refine zq<|zB 0<|zP 1 [{}] [.aa [9,8,4,3,2,1,0] [1]] []<|bo 9 (x.kind == (7:Int)) bR<|zq<|bo 15 (x.kind == (8:Int)) bR<|zP 1 [{}] [.aa [18,15,9,8,4,3,2,1,0] [1]] []<|bo 18 (x.kind == (2:Int)) bR<|zq<|bo 20 (x.kind == (3:Int)) bR<|zP 1 [{}] [.aa [26,20,18,15,9,8,4,3,2,1,0] [1]] []<|bo 26 (x.kind == (4:Int)) bR<|zq<|dQ 32 (x.kind == (5:Int)) fX<|zX {} []<|aM<|ak (⟨(mG x,u8 (x.kind-1)<<<5),rfl,(e_ [.aa [1,0,3,4] [1]] [3,4] [] [yB (aw x.num=aw (mG x)) (by rw [e]),yB (AV.val (Value.int .u8 128)=ab (u8 (x.kind-1)<<<(5:UInt8))) (by rw [e2];rfl)])⟩)
 rintro ⟨n,M⟩ hp
 injection hp with hn hM
 rw [←hn]
 clear hn
 simp only
 by_cases c1:wv n<24
 ·have e:=KB (m:=u8 (x.kind-1)) c1
  rw [←hM] at e
  rw [e]
  refine zS<|zB 1<|zP 1 [{}] [.aa [36,1,0,3,4] [1]] []<|jO 36 (wv n<24)<|zP 1 [yH [(2,yV (ab n.toUInt8)),(3,yV (ab (M+n.toUInt8))),(4,yV (AV.arr (ag [M+n.toUInt8])))]] [.aa [2,36,1,0,3,4] [43,1]] [yR (ab n.toUInt8),yR (ab (M+n.toUInt8)),yR [ab (M+n.toUInt8)]]<|zR<|bl<|aW (cE)
 by_cases c2:wv n<256
 ·have e:=MY (m:=u8 (x.kind-1)) c1 c2
  rw [←hM] at e
  rw [e]
  refine zS<|zB 1<|zP 1 [{}] [.aa [36,1,0,3,4] [1]] []<|dK 36 (wv n<24)<|zP 1 [{}] [.aa [44,36,1,0,3,4] [1]] []<|jO 44 (wv n<256)<|zP 1 [yH [(1,yV (ab (M+24))),(3,yV (ab n.toUInt8)),(4,yV (AV.arr (ag [M+24,n.toUInt8])))]] [.aa [2,44,36,1,0,3,4] [51,1]] [yR (ab (M+24)),yR (ab n.toUInt8),yR (ag [M+24,n.toUInt8])]<|zR<|bl<|aW (cE)
 by_cases c3:wv n<65536
 ·have e:=MX (m:=u8 (x.kind-1)) c2 c3
  rw [←hM] at e
  rw [e]
  refine zS<|zB 1<|zP 1 [{}] [.aa [36,1,0,3,4] [1]] []<|dK 36 (wv n<24)<|zP 1 [{}] [.aa [44,36,1,0,3,4] [1]] []<|dK 44 (wv n<256)<|zP 1 [{}] [.aa [52,44,36,1,0,3,4] [1]] []<|jO 52 (wv n<65536)<|zP 1 [yH [(1,yV (ab (M+25))),(3,yV (aw (n>>>(8:UInt64)))),(4,yV (ab ((n>>>(8:UInt64)).toUInt8))),(6,yV (ab n.toUInt8)),(7,yV (AV.arr (ag [M+25,(n>>>(8:UInt64)).toUInt8,n.toUInt8])))]] [.aa [2,52,44,36,1,0,3,4] [62,1]] [yR (ab (M+25)),yI (fK n ((8:Int)) ah ah),yO ((0:Int)≤8),yR (ab ((n>>>(8:UInt64)).toUInt8)),yR (ab n.toUInt8),yR (ag [M+25,(n>>>(8:UInt64)).toUInt8,n.toUInt8])]<|zR<|bl<|aW (cE)
 by_cases c4:wv n<4294967296
 ·have e:=MW (m:=u8 (x.kind-1)) c3 c4
  rw [←hM] at e
  rw [e]
  refine zS<|zB 1<|zP 1 [{}] [.aa [36,1,0,3,4] [1]] []<|dK 36 (wv n<24)<|zP 1 [{}] [.aa [44,36,1,0,3,4] [1]] []<|dK 44 (wv n<256)<|zP 1 [{}] [.aa [52,44,36,1,0,3,4] [1]] []<|dK 52 (wv n<65536)<|zP 1 [{}] [.aa [63,52,44,36,1,0,3,4] [1]] []<|jO 63 (wv n<4294967296)<|zP 1 [yH [(1,yV (ab (M+26))),(3,yV (aw (n>>>(24:UInt64)))),(4,yV (ab ((n>>>(24:UInt64)).toUInt8))),(6,yV (aw (n>>>(16:UInt64)))),(7,yV (ab ((n>>>(16:UInt64)).toUInt8))),(9,yV (aw (n>>>(8:UInt64)))),(10,yV (ab ((n>>>(8:UInt64)).toUInt8))),(12,yV (ab n.toUInt8)),(13,yV (AV.arr (ag [M+26,(n>>>(24:UInt64)).toUInt8,(n>>>(16:UInt64)).toUInt8,(n>>>(8:UInt64)).toUInt8,n.toUInt8])))]] [.aa [2,63,52,44,36,1,0,3,4] [79,1]] [yR (ab (M+26)),yI (fK n ((24:Int)) ah ah),yO ((0:Int)≤24),yR (ab ((n>>>(24:UInt64)).toUInt8)),yI (fK n ((16:Int)) ah ah),yO ((0:Int)≤16),yR (ab ((n>>>(16:UInt64)).toUInt8)),yI (fK n ((8:Int)) ah ah),yO ((0:Int)≤8),yR (ab ((n>>>(8:UInt64)).toUInt8)),yR (ab n.toUInt8),yR (ag [M+26,(n>>>(24:UInt64)).toUInt8,(n>>>(16:UInt64)).toUInt8,(n>>>(8:UInt64)).toUInt8,n.toUInt8])]<|zR<|bl<|aW (cE)
 ·have e:=MV (m:=u8 (x.kind-1)) c4
  rw [←hM] at e
  rw [e]
  refine zS<|zB 1<|zP 1 [{}] [.aa [36,1,0,3,4] [1]] []<|dK 36 (wv n<24)<|zP 1 [{}] [.aa [44,36,1,0,3,4] [1]] []<|dK 44 (wv n<256)<|zP 1 [{}] [.aa [52,44,36,1,0,3,4] [1]] []<|dK 52 (wv n<65536)<|zP 1 [{}] [.aa [63,52,44,36,1,0,3,4] [1]] []<|dK 63 (wv n<4294967296)<|zK<|aM<|ak<|zP 1 [yH [(1,yV (ab (M+27))),(2,yV (AV.arr (ag [M+27]))),(4,yV (AV.arr (aj [n]))),(5,yV (AV.own 1 (ag (words [n])))),(6,yV (AV.arr (ag ([M+27]++words [n]))))]] [.aa [2,63,52,44,36,1,0,3,4] [86,1]] [yR (ab (M+27)),yR [ab (M+27)],yR [aw n],yI (de [n] (by simp only [List.length_cons,List.length_nil];omega)),yI (aV (words [n])),yR (ag ([M+27]++words [n])),yL 9 140737488355328]<|zR (cE)
theorem ud {T:Type} (f:T->fo) (p:List fo) (l:List T) {i:Nat} (h:i<l.length) (z:T):af aU (p++(l.take i).map f)++aU (f (l.getD i z))=af aU (p++(l.take (i+1)).map f):=by
 rw [List.take_add_one,List.map_append,←List.append_assoc,List.getD_eq_getElem?_getD,List.getElem?_eq_getElem h]
 exact fO (p++(l.take i).map f) [f l[i]]
theorem Bx (d:nC) (hB:yh d):bK Tryz.prog 132 [.agg (bg d)] (.br [.own 3 (af aU (if fk d=0 then uR d else [])),ai (fk d)]):=by
 have sI:(af ay d.ae).length=d.ae.length:=by rw [aG (e:=1) (fun _=>rfl)];omega
 obtain ⟨b1,b2,b3,hh⟩:=hB
 by_cases c1:1024<d.box.length
 ·have e:fk d=8:=if_pos c1
  rw [e,if_neg ah]
  refine zO Tryz.func132 102<|zq<|zS<|zB 0<|zP 1 [yH [(2,{k:=d.box.length})]] [.aa [8,3,2,1,0] [1]] [yI (aA d.box)]<|jO 8 ((↑d.box.length:Int)>1024)<|zq<|zR<|bl<|aW (cE)
 by_cases c2:nv d.ae.length d.need
 ·have e:fk d=9:=by unfold fk;rw [if_neg c1,if_pos c2]
  unfold nv at c2
  rw [e,if_neg ah]
  by_cases k1:1≤d.ae.length∧d.ae.length≤8
  ·have k2:¬(1≤d.need∧d.need≤d.ae.length):=ah
   have SU:1≤(d.ae.length:Int)∧(d.ae.length:Int)≤8:=ah
   refine zO Tryz.func132 102<|zq<|zS<|zB 0<|zP 1 [yH [(2,{k:=d.box.length})]] [.aa [8,3,2,1,0] [1]] [yI (aA d.box)]<|dK 8 ((↑d.box.length:Int)>1024)<|zP 1 [yH ([(2,{k:=(af ay d.ae).length}),(3,yV (ao (decide ((1:Int)≤(↑(af ay d.ae).length:Int)∧(↑(af ay d.ae).length:Int)≤8)))),(10,{k:=(af ay d.ae).length,g:=false}),(11,{av:=some (ao (decide ((1:Int)≤d.need∧d.need≤(↑(af ay d.ae).length:Int)))),g:=false}),(13,{b:=false})]++yg [6,7,8,9,12])] [.aa [13,8,3,2,1,0] [1]] ([yR ((af ay d.ae).length),yI (bh (↑(af ay d.ae).length:Int) ((1:Int)) ((8:Int)))]++yM 5 (yS ((!decide ((1:Int)≤(↑(af ay d.ae).length:Int)∧(↑(af ay d.ae).length:Int)≤8))=false))++ [yR ((af ay d.ae).length),yS ((!decide ((1:Int)≤(↑(af ay d.ae).length:Int)∧(↑(af ay d.ae).length:Int)≤8))=false),yI (bh d.need ((1:Int)) (↑(af ay d.ae).length:Int))]++yM 2 (yS ((!decide ((1:Int)≤(↑(af ay d.ae).length:Int)∧(↑(af ay d.ae).length:Int)≤8))=false)))<|dQ 13 (!decide ((1:Int)≤d.need∧d.need≤(↑(af ay d.ae).length:Int))) (by simp;omega)<|zq<|zR<|bl<|aW (cE)
  ·have SU:¬(1≤(d.ae.length:Int)∧(d.ae.length:Int)≤8):=ah
   refine zO Tryz.func132 102<|zq<|zS<|zB 0<|zP 1 [yH [(2,{k:=d.box.length})]] [.aa [8,3,2,1,0] [1]] [yI (aA d.box)]<|dK 8 ((↑d.box.length:Int)>1024)<|zP 1 [yH [(2,{k:=(af ay d.ae).length}),(3,yV (ao (decide ((1:Int)≤(↑(af ay d.ae).length:Int)∧(↑(af ay d.ae).length:Int)≤8))))]] [.aa [13,8,3,2,1,0] [1]] ([yR ((af ay d.ae).length),yI (bh (↑(af ay d.ae).length:Int) ((1:Int)) ((8:Int)))]++yM 8 (yB ((!decide ((1:Int)≤(↑(af ay d.ae).length:Int)∧(↑(af ay d.ae).length:Int)≤8))=true) (by simp;omega)))<|zT 13<|zq<|zR<|bl<|aW (cE)
 unfold nv at c2
 have SU:1≤(d.ae.length:Int)∧(d.ae.length:Int)≤8:=ah
 have SR:1≤d.need∧d.need≤(d.ae.length:Int):=ah
 by_cases c3:d.au.length≠d.ae.length
 ·have e:fk d=4:=by unfold fk;rw [if_neg c1,if_neg (by unfold nv;exact c2),if_pos c3]
  rw [e,if_neg ah]
  refine zO Tryz.func132 102<|zq<|zS<|zB 0<|zP 1 [yH [(2,{k:=d.box.length})]] [.aa [8,3,2,1,0] [1]] [yI (aA d.box)]<|dK 8 ((↑d.box.length:Int)>1024)<|zP 1 [yH ([(2,{k:=(af ay d.ae).length}),(3,yV (ao (decide ((1:Int)≤(↑(af ay d.ae).length:Int)∧(↑(af ay d.ae).length:Int)≤8)))),(10,{k:=(af ay d.ae).length,g:=false}),(11,{av:=some (ao (decide ((1:Int)≤d.need∧d.need≤(↑(af ay d.ae).length:Int)))),g:=false}),(13,{b:=false})]++yg [6,7,8,9,12])] [.aa [13,8,3,2,1,0] [1]] ([yR ((af ay d.ae).length),yI (bh (↑(af ay d.ae).length:Int) ((1:Int)) ((8:Int)))]++yM 5 (yS ((!decide ((1:Int)≤(↑(af ay d.ae).length:Int)∧(↑(af ay d.ae).length:Int)≤8))=false))++ [yR ((af ay d.ae).length),yS ((!decide ((1:Int)≤(↑(af ay d.ae).length:Int)∧(↑(af ay d.ae).length:Int)≤8))=false),yI (bh d.need ((1:Int)) (↑(af ay d.ae).length:Int))]++yM 2 (yS ((!decide ((1:Int)≤(↑(af ay d.ae).length:Int)∧(↑(af ay d.ae).length:Int)≤8))=false)))<|bo 13 (!decide ((1:Int)≤d.need∧d.need≤(↑(af ay d.ae).length:Int))) (by simp_all)<|zP 1 [yH [(2,{k:=d.au.length}),(5,{k:=(af ay d.ae).length})]] [.aa [28,13,8,3,2,1,0] [1]] [yI (aD d.au),yR ((af ay d.ae).length)]<|dQ 28 ((↑d.au.length:Int) != (↑(af ay d.ae).length:Int)) (by simp;omega)<|zq<|zR<|bl<|aW (cE)
 have e:fk d=ff (mj d.ae) d.ae.length:=by unfold fk;rw [if_neg c1,if_neg (by unfold nv;exact c2),if_neg c3]
 have VE:d.au.length=d.ae.length:=ah
 have hr:=l0 d.ae b2 hh
 rw [←e] at hr
 by_cases c:fk d=0
 case neg =>
  rw [if_neg c]
  refine zO Tryz.func132 102<|zq<|zS<|zB 0<|zP 1 [yH [(2,{k:=d.box.length})]] [.aa [8,3,2,1,0] [1]] [yI (aA d.box)]<|dK 8 ((↑d.box.length:Int)>1024)<|zP 1 [yH ([(2,{k:=(af ay d.ae).length}),(3,yV (ao (decide ((1:Int)≤(↑(af ay d.ae).length:Int)∧(↑(af ay d.ae).length:Int)≤8)))),(10,{k:=(af ay d.ae).length,g:=false}),(11,{av:=some (ao (decide ((1:Int)≤d.need∧d.need≤(↑(af ay d.ae).length:Int)))),g:=false}),(13,{b:=false})]++yg [6,7,8,9,12])] [.aa [13,8,3,2,1,0] [1]] ([yR ((af ay d.ae).length),yI (bh (↑(af ay d.ae).length:Int) ((1:Int)) ((8:Int)))]++yM 5 (yS ((!decide ((1:Int)≤(↑(af ay d.ae).length:Int)∧(↑(af ay d.ae).length:Int)≤8))=false))++ [yR ((af ay d.ae).length),yS ((!decide ((1:Int)≤(↑(af ay d.ae).length:Int)∧(↑(af ay d.ae).length:Int)≤8))=false),yI (bh d.need ((1:Int)) (↑(af ay d.ae).length:Int))]++yM 2 (yS ((!decide ((1:Int)≤(↑(af ay d.ae).length:Int)∧(↑(af ay d.ae).length:Int)≤8))=false)))<|bo 13 (!decide ((1:Int)≤d.need∧d.need≤(↑(af ay d.ae).length:Int))) (by simp_all)<|zP 1 [yH [(2,{k:=d.au.length}),(5,{k:=(af ay d.ae).length})]] [.aa [28,13,8,3,2,1,0] [1]] [yI (aD d.au),yR ((af ay d.ae).length)]<|bo 28 ((↑d.au.length:Int) != (↑(af ay d.ae).length:Int)) (by simp_all)<|zK<|aM<|ak<|zS<|zP 2 [yH [(2,yV (ai (fk d)))],yH [(1,yV (ao true))]] [.aa [40,4,28,13,8,3,2,1,0] [1]] [yI hr,yB (ao (fk d != (0:Int))=ao true) (by simp [c])]<|zT 40<|zq<|dW (cE)
 rw [if_pos c,c]
 rw [c] at hr
 clear e c2
 refine zO Tryz.func132 102<|zq<|zS<|zB 0<|zP 1 [yH [(2,{k:=d.box.length})]] [.aa [8,3,2,1,0] [1]] [yI (aA d.box)]<|dK 8 ((↑d.box.length:Int)>1024)<|zP 1 [yH ([(2,{k:=(af ay d.ae).length}),(3,yV (ao (decide ((1:Int)≤(↑(af ay d.ae).length:Int)∧(↑(af ay d.ae).length:Int)≤8)))),(10,{k:=(af ay d.ae).length,g:=false}),(11,{av:=some (ao (decide ((1:Int)≤d.need∧d.need≤(↑(af ay d.ae).length:Int)))),g:=false}),(13,{b:=false})]++yg [6,7,8,9,12])] [.aa [13,8,3,2,1,0] [1]] ([yR ((af ay d.ae).length),yI (bh (↑(af ay d.ae).length:Int) ((1:Int)) ((8:Int)))]++yM 5 (yS ((!decide ((1:Int)≤(↑(af ay d.ae).length:Int)∧(↑(af ay d.ae).length:Int)≤8))=false))++ [yR ((af ay d.ae).length),yS ((!decide ((1:Int)≤(↑(af ay d.ae).length:Int)∧(↑(af ay d.ae).length:Int)≤8))=false),yI (bh d.need ((1:Int)) (↑(af ay d.ae).length:Int))]++yM 2 (yS ((!decide ((1:Int)≤(↑(af ay d.ae).length:Int)∧(↑(af ay d.ae).length:Int)≤8))=false)))<|bo 13 (!decide ((1:Int)≤d.need∧d.need≤(↑(af ay d.ae).length:Int))) (by simp_all)<|zP 1 [yH [(2,{k:=d.au.length}),(5,{k:=(af ay d.ae).length})]] [.aa [28,13,8,3,2,1,0] [1]] [yI (aD d.au),yR ((af ay d.ae).length)]<|bo 28 ((↑d.au.length:Int) != (↑(af ay d.ae).length:Int)) (by simp_all)<|zK<|aM<|ak<|zS<|zP 2 [yH [(2,yV (ai 0))],{}] [.aa [40,4,28,13,8,3,2,1,0] [1]] [yI hr]<|zF 40<|a8<|zP 1 [{hs:=[(2,yV (AV.agg (aU (aE d.cm)))),(5,yV (AV.agg (aU (aE d.peer)))),(8,yV (AV.agg (aU (dC d.box)))),(11,{k:=(af ay d.ae).length}),(12,yV (AV.agg [ai ((bz (u64 (↑(af ay d.ae).length:Int))).kind),aw ((bz (u64 (↑(af ay d.ae).length:Int))).num),AV.val (Value.string (ByteArray.mk (bz (u64 (↑(af ay d.ae).length:Int))).cC.toArray))]))],T:=12}] [.aa [5,40,4,28,13,8,3,2,1,0] [55,1]] [yI (gL d.cm),yI (gL d.peer),yI (vT d.box b1),yR ((af ay d.ae).length),yI (tI (↑(af ay d.ae).length:Int))]<|zS<|zq<|zB 1 (zL (fun (i:Nat)=>(⟨[(40,ao ((0:Int) != (0:Int))),(4,ai 0),(28,ao ((↑d.au.length:Int) != (↑(af ay d.ae).length:Int))),(13,ao (!decide ((1:Int)≤d.need∧d.need≤(↑(af ay d.ae).length:Int)))),(8,ao (decide ((↑d.box.length:Int)>1024))),(3,ai 0),(2,AV.nil),(1,AV.addr 1 0),(0,AV.agg (bg d)),(6,ai i),(5,AV.ref 5)],[(5,⟨3,true,false,af aU ([aE d.cm,aE d.peer,dC d.box,bz (u64 d.ae.length)]++(d.ae.take i).map b_)⟩),(1,⟨1,false,true,bg d⟩)]⟩:AS)) (fun i=>(i≤d.ae.length)) (fun i=>(d.ae.length-i)) (0) ?_ (e_ [.vS 55 5,.loose 5,.aa [40,4,28,13,8,3,2,1,0,6,5] [5,1]] [] [5] [yB ([ai ((aE d.cm).kind),aw ((aE d.cm).num),dw (aE d.cm).cC,ai ((aE d.peer).kind),aw ((aE d.peer).num),dw (aE d.peer).cC,ai ((dC d.box).kind),aw ((dC d.box).num),dw (dC d.box).cC,ai ((bz (u64 (↑(af ay d.ae).length:Int))).kind),aw ((bz (u64 (↑(af ay d.ae).length:Int))).num),AV.val (Value.string (ByteArray.mk (bz (u64 (↑(af ay d.ae).length:Int))).cC.toArray))]=af aU ([aE d.cm,aE d.peer,dC d.box,bz (u64 (↑d.ae.length:Int))]++List.map b_ (List.take 0 d.ae))) (by rw [sI];rfl)]) ?_)
 ·omega
 intro i hi
 refine zS<|zP 1 [yH [(3,{k:=(af ay d.ae).length})]] [.aa [60,40,4,28,13,8,3,2,1,0,6,5] [5,1]] [yR ((af ay d.ae).length)] (zD 60 ((↑i:Int)<(↑(af ay d.ae).length:Int)) (fun g=>?_) (fun g=>?_))
 ·have dM:i<d.ae.length:=ah
  have ix:=jV dM
  have hA:=hh i dM
  have s1:=ud b_ [aE d.cm,aE d.peer,dC d.box,bz (u64 d.ae.length)] d.ae dM default
  refine a8<|zS<|zB 2<|zX (yH [(4,{k:=i}),(5,yV (dw (d.ae.getD i default))),(6,yV (AV.agg (aU (b_ (d.ae.getD i default)))))]) [yR (↑i:Int),yO (i<(af ay d.ae).length),yI ix,yI (qu (d.ae.getD i default)),yB (((af aU ([aE d.cm,aE d.peer,dC d.box,bz (u64 (↑d.ae.length:Int))]++List.map b_ (List.take i d.ae))).length+3)*32≤422212465065984) (by simp only [List.length_append,List.length_cons,List.length_nil,List.length_take,List.length_map,aG (f:=aU) (e:=3) (fun _=>rfl)];omega)]<|aM<|ak<|a7.Qb {hs:=[(1,{av:=some (ai ((↑i:Int)+1))})]} (s':=AS.mk [(6,ai ((↑i:Int)+1)),(62,ai ((↑i:Int)+1)),(61,ai ↑i),(5,AV.ref 71),(71,AV.ref 71),(70,AV.ref 70),(69,AV.agg (aU (b_ (d.ae.getD i default)))),(68,dw (d.ae.getD i default)),(67,AV.ptr (af ay d.ae) i),(66,ai ↑i),(65,AV.sl 1 (af ay d.ae)),(64,AV.addr 1 3),(63,AV.dead),(60,ao (decide ((↑i:Int)<(↑(af ay d.ae).length:Int)))),(40,ao ((0:Int) != (0:Int))),(4,ai 0),(28,ao ((↑d.au.length:Int) != (↑(af ay d.ae).length:Int))),(13,ao (!decide ((1:Int)≤d.need∧d.need≤(↑(af ay d.ae).length:Int)))),(8,ao (decide ((↑d.box.length:Int)>1024))),(3,ai 0),(2,AV.nil),(1,AV.addr 1 0),(0,AV.agg (bg d))] [(71,Row.mk 3 true false (af aU ([aE d.cm,aE d.peer,dC d.box,bz (u64 (↑d.ae.length:Int))]++List.map b_ (List.take i d.ae))++(aU (b_ (d.ae.getD i default))))),(70,Row.mk 3 true true (aU (b_ (d.ae.getD i default)))),(1,Row.mk 1 false true (List.map (aQ 71) (dr 5 (Row.mk 1 false true (List.map (aQ 70) (bg d)))).cells))]) (C:=[ai (IntKind.i64.wrap ((↑i:Int)+1))=ai ((↑i:Int)+1)]) bH ⟨(eZ ah ah),trivial⟩ (aI (i+1) (by assumption) ah (e_ [.vS 71 5,.aa [40,4,28,13,8,3,2,1,0,6,5] [5,1]] [] [5] [yB (af aU ([aE d.cm,aE d.peer,dC d.box,bz (u64 (↑d.ae.length:Int))]++List.map b_ (List.take i d.ae))++(aU (b_ (d.ae.getD i default)))=af aU ([aE d.cm,aE d.peer,dC d.box,bz (u64 (↑d.ae.length:Int))]++List.map b_ (List.take (i+1) d.ae))) (by assumption)]))
 ·have ei:i=d.ae.length:=ah
  subst ei
  rw [show d.ae.take d.ae.length=d.ae from List.take_length]
  have pJ:uR d=([aE d.cm,aE d.peer,dC d.box,bz (u64 d.ae.length)]++d.ae.map b_++ [bz (u64 d.au.length)])++d.au.map aE++ [aE (u64 d.need)]:=by unfold uR;simp
  rw [pJ]
  have V_:([aE d.cm,aE d.peer,dC d.box,bz (u64 d.ae.length)]++d.ae.map b_).length≤12:=by rw [List.length_append,List.length_map];show 4+_≤12;omega
  generalize [aE d.cm,aE d.peer,dC d.box,bz (u64 d.ae.length)]++d.ae.map b_=A at *
  have Vo:(af aU A).length≤36:=by rw [aG (e:=3) (fun _=>rfl)];omega
  refine zE 1<|aY<|aN<|bm<|ak<|zP 1 [yH [(3,{k:=d.au.length}),(4,yV (AV.agg (aU (bz (u64 (↑d.au.length:Int))))))]] [.aa [5,60,40,4,28,13,8,3,2,1,0,6] [78,1]] [yI (aD d.au),yI (tI ((↑d.au.length:Int))),yO (((af aU A).length+3)*32≤422212465065984)]<|zS<|zq<|zB 3 (zL (fun (j:Nat)=>(⟨[(60,ao (decide ((↑d.ae.length:Int)<(↑(af ay d.ae).length:Int)))),(40,ao ((0:Int) != (0:Int))),(4,ai 0),(28,ao ((↑d.au.length:Int) != (↑(af ay d.ae).length:Int))),(13,ao (!decide ((1:Int)≤d.need∧d.need≤(↑(af ay d.ae).length:Int)))),(8,ao (decide ((↑d.box.length:Int)>1024))),(3,ai 0),(2,AV.nil),(1,AV.addr 1 0),(0,AV.agg (bg d)),(6,ai (↑d.ae.length:Int)),(7,ai j),(5,AV.ref 5)],[(5,⟨3,true,false,af aU (A++ [bz (u64 d.au.length)]++(d.au.take j).map aE)⟩),(1,⟨1,false,true,bg d⟩)]⟩:AS)) (fun j=>(j≤d.au.length)) (fun j=>(d.au.length-j)) (0) ?_ (e_ [.vS 78 5,.aa [60,40,4,28,13,8,3,2,1,0,6,7,5] [5,1]] [] [5] [yB (af aU A++(aU (bz (u64 (↑d.au.length:Int))))=af aU (A++ [bz (u64 (↑d.au.length:Int))]++List.map aE (List.take 0 d.au))) (by rw [List.take_zero];exact (fO A [bz (u64 d.au.length)]).trans (by simp))]) ?_)
  ·omega
  intro j hj
  refine zS<|zP 1 [yH [(3,{k:=d.au.length})]] [.aa [83,60,40,4,28,13,8,3,2,1,0,6,7,5] [5,1]] [yI (aD d.au)] (zD 83 ((↑j:Int)<(↑d.au.length:Int)) (fun g2=>?_) (fun g2=>?_))
  ·have sJ:j<d.au.length:=ah
   have ix:=eG (l:=d.au) sJ
   have s2:=ud aE (A++ [bz (u64 d.au.length)]) d.au sJ 0
   refine a8<|zS<|zB 4<|zX (yH [(4,{k:=j}),(5,yV (aw (d.au.getD j 0))),(6,yV (AV.agg (aU (aE (d.au.getD j 0)))))]) [yR (↑j:Int),yB (j<(aj d.au).length) (by simp only [aD];omega),yI ix,yI (gL (d.au.getD j 0)),yB (((af aU (A++ [bz (u64 (↑d.au.length:Int))]++List.map aE (List.take j d.au))).length+3)*32≤422212465065984) (by simp only [List.length_append,List.length_cons,List.length_nil,List.length_take,List.length_map,aG (f:=aU) (e:=3) (fun _=>rfl)];omega)]<|aM<|ak<|zX (yH [(1,yV (ai ((↑j:Int)+1)))]) [yN ((↑j:Int)+1)] (aI (j+1) (by assumption) ah (e_ [.vS 94 5,.aa [60,40,4,28,13,8,3,2,1,0,6,7,5] [5,1]] [] [5] [yB (af aU (A++ [bz (u64 (↑d.au.length:Int))]++List.map aE (List.take j d.au))++(aU (aE (d.au.getD j 0)))=af aU (A++ [bz (u64 (↑d.au.length:Int))]++List.map aE (List.take (j+1) d.au))) (by assumption)]))
  ·have ej:j=d.au.length:=ah
   subst ej
   rw [show d.au.take d.au.length=d.au from List.take_length]
   refine zE 3<|aY<|aN<|bm<|ak<|zP 1 [yH [(3,yV (aw (u64 d.need))),(4,yV (AV.agg (aU (aE (u64 d.need)))))]] [.aa [3,2,83,60,40,4,28,13,8,1,0,6,7] [101,1]] [yI (a6 d.need),yI (gL (u64 d.need)),yB (((af aU (A++ [bz (u64 (↑d.au.length:Int))]++List.map aE d.au)).length+3)*32≤422212465065984) (by simp only [List.length_append,List.length_cons,List.length_nil,List.length_map,aG (f:=aU) (e:=3) (fun _=>rfl)];omega)]<|zR (zV [yB (af aU (A++ [bz (u64 (↑d.au.length:Int))]++List.map aE d.au)++(aU (aE (u64 d.need)))=af aU (A++ [bz (u64 (↑d.au.length:Int))]++List.map aE d.au++ [aE (u64 d.need)])) (fO _ [aE (u64 d.need)]),yR (Value.int .i64 0)])
theorem w7 (x:fo) (hk:ea x.kind) (hd:x.cC.length≤100000) (h:x.kind=3∨x.kind=4∨x.cC= []):bK Tryz.prog 84 [.agg (aU x)] (dw (i_ x)):=by
 rw [KX x h]
 have hl:=lM (u8 (x.kind-1)) (mG x)
 have hh:=zi x hk hd
 generalize cz (u8 (x.kind-1)) (mG x)=H at *
 have hs:(⟨H.toArray⟩:ByteArray).size+(⟨x.cC.toArray⟩:ByteArray).size≤9223372036854775807:=by
  show H.toArray.size+x.cC.toArray.size≤_
  rw [List.size_toArray,List.size_toArray]
  omega
 refine zO Tryz.func84 9<|zP 2 [{},{hs:=[(1,yV (AV.own 1 (ag H))),(2,yV (dw H))],T:=5}] [.aa [2,1,0] [1]] [yI hh,yI (aV H),yR (ag H),yI hs]<|zR (cE)
end Go.Proofs.YtjgbhhnghedgdaaGreatDoor
