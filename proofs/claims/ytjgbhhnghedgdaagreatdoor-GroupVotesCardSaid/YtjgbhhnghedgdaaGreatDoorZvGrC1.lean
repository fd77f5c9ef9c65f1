import Derived.Test.YtjgbhhnghedgdaaGreatDoorZvGrC3
set_option linter.all false
namespace Go.Proofs.YtjgbhhnghedgdaaGreatDoor
open Go.RowKit
set_option maxRecDepth 100000
set_option maxHeartbeats 4000000
structure ry (g:ig):Prop where
 W3:0≤g.aC
 RZ:g.aC≤2147483647
 m8:g.aq.length≤8
 t0:0≤g.bA
 t1:g.bA≤8
 d8:g.aU.length≤8
theorem Ad {l:List nH} {i:Nat} (h:i<l.length):List.take 7 (List.drop (i*7) (af bj l))=bj (l.getD i default):=kM (e:=7) (fun _=>rfl) h
theorem Cf {l:List nH} {k:Nat} (hk:k<l.length) (t:UInt64):(af bj l).set (k*7+6) (aw t)=af bj (uV l k t):=by
 unfold uV
 induction l generalizing k with
 | nil=>cases hk
 | cons m l ih =>
  cases k with
  | zero=>rfl
  | succ k =>
   have:=ih (k:=k) (by simpa using hk)
   rw [show (k+1)*7+6=k*7+6+7 by omega]
   show bj m++(af bj l).set (k*7+6) (aw t)=bj m++af bj (l.set k {l.getD k default with target:=t})
   rw [this]
theorem L8 (l:List Mem) (k:Nat):(af aT l).take (k*4)++(af aT l).drop ((k+1)*4)=af aT (q8 l k):=by
 rw [mD (e:=4) (fun _=>rfl),mE (e:=4) (fun _=>rfl),fb];rfl
theorem oV (l:List nH) (p:UInt64):(wP l p=l.length∧D0 l p= -1)∨ ∃k:Nat,wP l p=k∧D0 l p=k∧k<l.length:=by
 unfold D0
 by_cases h:wP l p<l.length
 ·exact .inr ⟨_,rfl,if_pos h,h⟩
 ·have:wP l p≤l.length:=List.findIdx_le_length
  exact .inl ⟨ag,if_neg h⟩
theorem wX (g:ig) (e:fC) (hG:ry g) (h1:1≤e.kind) (h5:e.kind≤5) (ht:e.kind=3->1≤e.bA∧e.bA≤8) (hh:e.dep.ae.length≤1000000):bG Tryz.prog 63 [.agg (dA g),.agg (bf e)] (.cw [.agg (dA (c_ g e)),ai (gW g e)]):=by
 obtain ⟨g1,g2,g3,g4,g5,g6⟩:=hG
 have nG:(af aT g.aq).length=g.aq.length*4:=aE (e:=4) (fun _=>rfl) ..
 have ue:(af bj g.aU).length=g.aU.length*7:=aE (e:=7) (fun _=>rfl) ..
 have jL:=mU g.aq e.name ag
 have wO:=qp g.aU e.dep.bV ag
 have BN:=qp g.aU e.bV ag
 generalize th:c_ g e=G
 generalize BS:gW g e=E
 refine zO Tryz.func63 162<|zP 3 [{},yH [(2,{k:=g.aq.length})],yH [(4,yC jL)]] [.aa [7,6,5,4,3,2,0,1] [4,3,2]] [yI nG,yI jL] (bg.ob (fun (x:Unit)=>(⟨[(7,ai (dZ g.aq e.name)),(6,ai (↑g.aq.length:Int)),(4,AV.addr 4 0),(3,AV.addr 3 0),(2,AV.addr 2 0),(0,AV.agg (dA g)),(1,AV.agg (bf e))],[(4,⟨1,false,true,[ai 0,ez,ai 0,AV.nil,AV.nil]⟩),(3,⟨1,false,true,(bf e)⟩),(2,⟨1,false,true,dA G⟩)]⟩:AS)) (fun x=>(E=0)) bu ?_ ?_)
 ·by_cases k1:e.kind=1
  ·have ce:gW g e=if 0≤dZ g.aq e.name then 10 else if 8≤g.aq.length then 12 else 0:=if_pos k1
   by_cases c1:0≤dZ g.aq e.name
   ·rw [if_pos c1] at ce
    have cg:c_ g e=g:=if_pos ag
    rw [BS] at ce;rw [th] at cg
    subst ce cg
    refine zq<|zB 0<|zP 1 [{}] [.aa [48,20,7,6,5,4,3,2,0,1] [4,3,2]] []<|dB 48 (e.kind == (1:Int)) eJ<|zS<|zB 1<|zP 1 [{}] [.aa [50,48,20,7,6,5,4,3,2,0,1] [4,3,2]] []<|iw 50 (dZ G.aq e.name≥0)<|zP 1 [{}] [.aa [5,50,48,20,7,6,4,3,2,0,1] [4,3,2]] [yL 5 5]<|zR<|bc<|aK<|bc<|aK (bP)
   by_cases c2:8≤g.aq.length
   ·rw [if_neg c1,if_pos c2] at ce
    have cg:c_ g e=g:=if_pos ag
    rw [BS] at ce;rw [th] at cg
    subst ce cg
    refine zq<|zB 0<|zP 1 [{}] [.aa [48,20,7,6,5,4,3,2,0,1] [4,3,2]] []<|dB 48 (e.kind == (1:Int)) eJ<|zS<|zB 1<|zP 1 [{}] [.aa [50,48,20,7,6,5,4,3,2,0,1] [4,3,2]] []<|dF 50 (dZ G.aq e.name≥0)<|zP 1 [{}] [.aa [54,50,48,20,7,6,5,4,3,2,0,1] [4,3,2]] []<|iw 54 ((↑G.aq.length:Int)≥8)<|zP 1 [{}] [.aa [5,54,50,48,20,7,6,4,3,2,0,1] [4,3,2]] [yL 5 5]<|zR<|bc<|aK<|bc<|aK (bP)
   rw [if_neg c1,if_neg c2] at ce
   have s1:af aT g.aq++aT ⟨e.name,e.kh,e.kr,0⟩=af aT (g.aq++ [⟨e.name,e.kh,e.kr,0⟩]):=fR _ _
   by_cases c3:2*g.bA≤g.aq.length+1
   ·have cg:c_ g e=⟨g.aC,g.head,g.bA+1,g.aq++ [⟨e.name,e.kh,e.kr,0⟩],g.aU⟩:=by unfold c_;rw [if_neg ag,if_pos k1,if_pos c3]
    rw [BS] at ce;rw [th] at cg
    subst ce cg
    refine zq<|zB 0<|zP 1 [{}] [.aa [48,20,7,6,5,4,3,2,0,1] [4,3,2]] []<|dB 48 (e.kind == (1:Int)) eJ<|zS<|zB 1<|zP 1 [{}] [.aa [50,48,20,7,6,5,4,3,2,0,1] [4,3,2]] []<|dF 50 (dZ g.aq e.name≥0)<|zP 1 [{}] [.aa [54,50,48,20,7,6,5,4,3,2,0,1] [4,3,2]] []<|dF 54 ((↑g.aq.length:Int)≥8)<|zK<|aJ<|al<|zS<|zP 1 [yH [(2,yV (ai ((2:Int)*g.bA))),(4,yV (ai ((↑g.aq.length:Int)+1)))]] [.aa [63,54,50,48,20,7,6,5,4,3,2,0,1] [4,3,2]] [yN ((2:Int)*g.bA),yN ((↑g.aq.length:Int)+1)]<|iw 63 ((2:Int)*g.bA≤(↑g.aq.length:Int)+1)<|zX (yH [(2,yV (ai (g.bA+1)))]) [yN (g.bA+1),yL 3 5]<|al<|Ax 9 [2] [(2,{b:=false}),(9,yV (AV.arr (af aT (g.aq++ [Mem.mk e.name e.kh e.kr 0]))))] [yB (cp (af aT g.aq)) (dm (fun x=>dr rfl) _),yO ((0+(af aT g.aq).length)*40≤562949953421312),yR (AV.addr 3 3),yR (cV e.name),yR (AV.addr 3 4),yR (AV.agg [ai e.kh,aw e.kr]),yR (AV.agg [cV e.name,ai e.kh,aw e.kr,ez]),yR (AV.sl 4 [cV e.name,ai e.kh,aw e.kr,ez]),yI s1,yO (((af aT g.aq).length+4)*40≤562949953421312),yL 4 5]<|aJ<|al (⟨(),rfl,(zW [.gR 77,.aa [7,6,4,3,2,0,1] [4,3,2]])⟩)
   ·have cg:c_ g e=⟨g.aC,g.head,g.bA,g.aq++ [⟨e.name,e.kh,e.kr,0⟩],g.aU⟩:=by unfold c_;rw [if_neg ag,if_pos k1,if_neg c3]
    rw [BS] at ce;rw [th] at cg
    subst ce cg
    refine zq<|zB 0<|zP 1 [{}] [.aa [48,20,7,6,5,4,3,2,0,1] [4,3,2]] []<|dB 48 (e.kind == (1:Int)) eJ<|zS<|zB 1<|zP 1 [{}] [.aa [50,48,20,7,6,5,4,3,2,0,1] [4,3,2]] []<|dF 50 (dZ g.aq e.name≥0)<|zP 1 [{}] [.aa [54,50,48,20,7,6,5,4,3,2,0,1] [4,3,2]] []<|dF 54 ((↑g.aq.length:Int)≥8)<|zK<|aJ<|al<|zS<|zP 1 [yH [(2,yV (ai ((2:Int)*g.bA))),(4,yV (ai ((↑g.aq.length:Int)+1)))]] [.aa [63,54,50,48,20,7,6,5,4,3,2,0,1] [4,3,2]] [yN ((2:Int)*g.bA),yN ((↑g.aq.length:Int)+1)]<|dF 63 ((2:Int)*g.bA≤(↑g.aq.length:Int)+1)<|a_<|Ax 9 [2] [(2,{b:=false}),(9,yV (AV.arr (af aT (g.aq++ [Mem.mk e.name e.kh e.kr 0]))))] [yB (cp (af aT g.aq)) (dm (fun x=>dr rfl) _),yO ((0+(af aT g.aq).length)*40≤562949953421312),yR (AV.addr 3 3),yR (cV e.name),yR (AV.addr 3 4),yR (AV.agg [ai e.kh,aw e.kr]),yR (AV.agg [cV e.name,ai e.kh,aw e.kr,ez]),yR (AV.sl 4 [cV e.name,ai e.kh,aw e.kr,ez]),yI s1,yO (((af aT g.aq).length+4)*40≤562949953421312),yL 4 5]<|aJ<|al (⟨(),rfl,(zW [.gR 77,.aa [7,6,4,3,2,0,1] [4,3,2]])⟩)
  by_cases k2:e.kind=2
  ·have ce:gW g e=if dZ g.aq e.name<0 then 11 else if (g.aq.length:Int)-1<g.bA then 41 else 0:=by unfold gW;rw [if_neg k1,if_pos k2]
   rcases gU g.aq e.name with hk|⟨k,hk,iY,QD⟩
   ·rw [if_pos ag] at ce
    have cg:c_ g e=g:=if_pos ag
    rw [BS] at ce;rw [th] at cg
    subst ce cg
    rw [hk] at jL
    refine zq<|zB 0<|zP 1 [{}] [.aa [48,20,7,6,5,4,3,2,0,1] [4,3,2]] []<|bk 48 (e.kind == (1:Int)) bD<|zq<|dB 79 (e.kind == (2:Int)) eJ<|zS<|zP 1 [{}] [.aa [82,79,48,20,7,6,5,4,3,2,0,1] [4,3,2]] []<|iw 82 (dZ G.aq e.name<0)<|zP 1 [{}] [.aa [5,82,79,48,20,7,6,4,3,2,0,1] [4,3,2]] [yL 5 5]<|dC<|bc<|aK (bP)
   rw [if_neg ag] at ce
   rw [hk] at jL
   have pf:AV.val (.int .i64 (dZ g.aq e.name))=ai k:=by rw [hk]
   by_cases c2:(g.aq.length:Int)-1<g.bA
   ·rw [if_pos c2] at ce
    have cg:c_ g e=g:=if_pos ag
    rw [BS] at ce;rw [th] at cg
    subst ce cg
    refine zq<|zB 0<|zP 1 [{}] [.aa [48,20,7,6,5,4,3,2,0,1] [4,3,2]] []<|bk 48 (e.kind == (1:Int)) bD<|zq<|dB 79 (e.kind == (2:Int)) eJ<|zS<|zP 1 [{}] [.aa [82,79,48,20,7,6,5,4,3,2,0,1] [4,3,2]] []<|dF 82 (dZ G.aq e.name<0)<|a_<|zS<|zP 1 [yH [(3,yV (ai ((↑G.aq.length:Int)-1)))]] [.aa [88,82,79,48,20,7,6,5,4,3,2,0,1] [4,3,2]] [yN ((↑G.aq.length:Int)-1)]<|iw 88 (G.bA>(↑G.aq.length:Int)-1)<|zP 1 [{}] [.aa [5,88,82,79,48,20,7,6,4,3,2,0,1] [4,3,2]] [yL 5 5]<|dC<|bc<|aK (bP)
   rw [if_neg c2] at ce
   have cg:c_ g e=⟨g.aC,g.head,g.bA,q8 g.aq k,g.aU⟩:=by unfold c_;rw [if_neg ag,if_neg k1,if_pos k2,hk];rfl
   rw [BS] at ce;rw [th] at cg
   subst ce cg
   have s1:=L8 g.aq k
   have nw:cp (af aT g.aq):=dm (fun x=>dr rfl) _
   have Qu:cp ((af aT g.aq).take (k*4)):=fun x hx=>nw x (List.mem_of_mem_take hx)
   have O9:cp ((af aT g.aq).drop ((k+1)*4)):=fun x hx=>nw x (List.mem_of_mem_drop hx)
   refine zq<|zB 0<|zP 1 [{}] [.aa [48,20,7,6,5,4,3,2,0,1] [4,3,2]] []<|bk 48 (e.kind == (1:Int)) bD<|zq<|dB 79 (e.kind == (2:Int)) eJ<|zS<|zP 1 [{}] [.aa [82,79,48,20,7,6,5,4,3,2,0,1] [4,3,2]] []<|dF 82 (dZ g.aq e.name<0)<|a_<|zS<|zP 1 [yH [(3,yV (ai ((↑g.aq.length:Int)-1)))]] [.aa [88,82,79,48,20,7,6,5,4,3,2,0,1] [4,3,2]] [yN ((↑g.aq.length:Int)-1)]<|dF 88 (g.bA>(↑g.aq.length:Int)-1)<|a_<|Ax 10 [4] [(2,yV (ai ↑k)),(3,{m:=k}),(4,{b:=false}),(8,yV (ai (↑(k+1):Int))),(9,{k:=k+1}),(10,{av:=some (AV.arr (af aT (q8 g.aq k))),b:=false})] [yI pf,yR (↑k:Int),yO (k*4≤(af aT g.aq).length),yB (ai (IntKind.i64.wrap (dZ g.aq e.name+1))=ai (↑(k+1):Int)) (congrArg (fun n=>AV.val (.int .i64 n)) (by rw [IntKind.wrap_i64];omega)),yR (↑(k+1):Int),yO ((k+1)*4≤(af aT g.aq).length),yI Qu,yB ((0+(List.take (k*4) (af aT g.aq)).length)*40≤562949953421312) (by simp only [List.length_take];omega),yR (AV.addr 2 3),yR (AV.sl 4 (af aT g.aq)),yR (ai (dZ g.aq e.name)),yR (ai (↑(k+1):Int)),yB (ai (IntKind.i64.wrap (dZ g.aq e.name+1))=ai (↑(k+1):Int)) (congrArg (fun n=>AV.val (.int .i64 n)) (by rw [IntKind.wrap_i64];omega)),yR (AV.sl 4 (List.drop ((k+1)*4) (af aT g.aq))),yR (↑(k+1):Int),yO ((k+1)*4≤(af aT g.aq).length),yI s1,yI O9,yB (((List.take (k*4) (af aT g.aq)).length+(List.drop ((k+1)*4) (af aT g.aq)).length)*40≤562949953421312) (by simp only [List.length_take,List.length_drop];omega),yL 4 5]<|aJ<|al (⟨(),rfl,(zW [.gR 100,.aa [7,6,4,3,2,0,1] [4,3,2]])⟩)
  by_cases k3:e.kind=3
  ·obtain ⟨t1,t2⟩:=ht k3
   have ce:gW g e=if (g.aq.length:Int)<e.bA∨2*e.bA≤g.aq.length then 41 else 0:=by unfold gW;rw [if_neg k1,if_neg k2,if_pos k3]
   by_cases c1:(g.aq.length:Int)<e.bA
   ·rw [if_pos (.inl c1)] at ce
    have cg:c_ g e=g:=if_pos ag
    rw [BS] at ce;rw [th] at cg
    subst ce cg
    refine zq<|zB 0<|zP 1 [{}] [.aa [48,20,7,6,5,4,3,2,0,1] [4,3,2]] []<|bk 48 (e.kind == (1:Int)) bD<|zq<|bk 79 (e.kind == (2:Int)) bD<|zP 1 [{}] [.aa [102,79,48,20,7,6,5,4,3,2,0,1] [4,3,2]] []<|dB 102 (e.kind == (3:Int)) eJ<|zS<|zP 1 [{}] [.aa [114,102,79,48,20,7,6,5,4,3,2,0,1] [4,3,2]] (yM 6 (yT (e.bA>(↑G.aq.length:Int))))<|zT 114<|zP 1 [{}] [.aa [5,114,102,79,48,20,7,6,4,3,2,0,1] [4,3,2]] [yL 5 5]<|dC<|bc<|aK (bP)
   by_cases c2:2*e.bA≤g.aq.length
   ·rw [if_pos (.inr c2)] at ce
    have cg:c_ g e=g:=if_pos ag
    rw [BS] at ce;rw [th] at cg
    subst ce cg
    refine zq<|zB 0<|zP 1 [{}] [.aa [48,20,7,6,5,4,3,2,0,1] [4,3,2]] []<|bk 48 (e.kind == (1:Int)) bD<|zq<|bk 79 (e.kind == (2:Int)) bD<|zP 1 [{}] [.aa [102,79,48,20,7,6,5,4,3,2,0,1] [4,3,2]] []<|dB 102 (e.kind == (3:Int)) eJ<|zS<|zP 1 [yH ([(7,{av:=some (ai ((2:Int)*e.bA)),g:=false}),(10,{b:=false})]++yg [5,6,8,9])] [.aa [114,102,79,48,20,7,6,5,4,3,2,0,1] [4,3,2]] (yM 3 (yF (e.bA>(↑G.aq.length:Int)))++ [yN ((2:Int)*e.bA)]++yM 3 (yF (e.bA>(↑G.aq.length:Int))))<|iw 114 ((2:Int)*e.bA≤(↑G.aq.length:Int))<|zP 1 [{}] [.aa [5,114,102,79,48,20,7,6,4,3,2,0,1] [4,3,2]] [yL 5 5]<|dC<|bc<|aK (bP)
   rw [if_neg ag] at ce
   have cg:c_ g e=⟨g.aC,g.head,e.bA,g.aq,g.aU⟩:=by unfold c_;rw [if_neg ag,if_neg k1,if_neg k2,if_pos k3]
   rw [BS] at ce;rw [th] at cg
   subst ce cg
   refine zq<|zB 0<|zP 1 [{}] [.aa [48,20,7,6,5,4,3,2,0,1] [4,3,2]] []<|bk 48 (e.kind == (1:Int)) bD<|zq<|bk 79 (e.kind == (2:Int)) bD<|zP 1 [{}] [.aa [102,79,48,20,7,6,5,4,3,2,0,1] [4,3,2]] []<|dB 102 (e.kind == (3:Int)) eJ<|zS<|zP 1 [yH ([(7,{av:=some (ai ((2:Int)*e.bA)),g:=false}),(10,{b:=false})]++yg [5,6,8,9])] [.aa [114,102,79,48,20,7,6,5,4,3,2,0,1] [4,3,2]] (yM 3 (yF (e.bA>(↑g.aq.length:Int)))++ [yN ((2:Int)*e.bA)]++yM 3 (yF (e.bA>(↑g.aq.length:Int))))<|dF 114 ((2:Int)*e.bA≤(↑g.aq.length:Int))<|a_<|zX {} [yL 3 5]<|aJ<|al (⟨(),rfl,(zW [.aa [7,6,4,3,2,0,1] [4,3,2]])⟩)
  by_cases k4:e.kind=4
  ·have ce:gW g e=if 8≤g.aU.length then 12 else if wP g.aU e.dep.bV<g.aU.length then 10 else ff (tK g e.dep.ae) e.dep.ae.length:=by unfold gW;rw [if_neg k1,if_neg k2,if_neg k3,if_pos k4]
   by_cases c1:8≤g.aU.length
   ·rw [if_pos c1] at ce
    have cg:c_ g e=g:=if_pos ag
    rw [BS] at ce;rw [th] at cg
    subst ce cg
    refine zq<|zB 0<|zP 1 [{}] [.aa [48,20,7,6,5,4,3,2,0,1] [4,3,2]] []<|bk 48 (e.kind == (1:Int)) bD<|zq<|bk 79 (e.kind == (2:Int)) bD<|zP 1 [{}] [.aa [102,79,48,20,7,6,5,4,3,2,0,1] [4,3,2]] []<|bk 102 (e.kind == (3:Int)) bD<|zq<|dB 119 (e.kind == (4:Int)) eJ<|zS<|zP 1 [yH [(2,{k:=G.aU.length})]] [.aa [124,119,102,79,48,20,7,6,5,4,3,2,0,1] [4,3,2]] [yI ue]<|iw 124 ((↑G.aU.length:Int)≥8)<|zP 1 [{}] [.aa [5,124,119,102,79,48,20,7,6,4,3,2,0,1] [4,3,2]] [yL 5 5]<|dC<|bc<|aK (bP)
   rw [if_neg c1] at ce
   rcases oV g.aU e.dep.bV with ⟨hf,hk⟩|⟨k,hf,hk,iY⟩
   case inr =>
    rw [if_pos ag] at ce
    have cg:c_ g e=g:=if_pos ag
    rw [BS] at ce;rw [th] at cg
    subst ce cg
    rw [hk] at wO
    refine zq<|zB 0<|zP 1 [{}] [.aa [48,20,7,6,5,4,3,2,0,1] [4,3,2]] []<|bk 48 (e.kind == (1:Int)) bD<|zq<|bk 79 (e.kind == (2:Int)) bD<|zP 1 [{}] [.aa [102,79,48,20,7,6,5,4,3,2,0,1] [4,3,2]] []<|bk 102 (e.kind == (3:Int)) bD<|zq<|dB 119 (e.kind == (4:Int)) eJ<|zS<|zP 1 [yH [(2,{k:=G.aU.length})]] [.aa [124,119,102,79,48,20,7,6,5,4,3,2,0,1] [4,3,2]] [yI ue]<|dF 124 ((↑G.aU.length:Int)≥8)<|a_<|zS<|zP 1 [yH [(5,yC wO)]] [.aa [132,124,119,102,79,48,20,7,6,5,4,3,2,0,1] [4,3,2]] [yI wO]<|iw 132 ((↑k:Int)≥0)<|zP 1 [{}] [.aa [5,132,124,119,102,79,48,20,7,6,4,3,2,0,1] [4,3,2]] [yL 5 5]<|dC<|bc<|aK (bP)
   rw [if_neg ag] at ce
   rw [hk] at wO
   have RM:(af ay e.dep.ae).length=e.dep.ae.length:=by rw [aE (e:=1) (fun _=>rfl)];omega
   refine zq<|zB 0<|zP 1 [{}] [.aa [48,20,7,6,5,4,3,2,0,1] [4,3,2]] []<|bk 48 (e.kind == (1:Int)) bD<|zq<|bk 79 (e.kind == (2:Int)) bD<|zP 1 [{}] [.aa [102,79,48,20,7,6,5,4,3,2,0,1] [4,3,2]] []<|bk 102 (e.kind == (3:Int)) bD<|zq<|dB 119 (e.kind == (4:Int)) eJ<|zS<|zP 1 [yH [(2,{k:=g.aU.length})]] [.aa [124,119,102,79,48,20,7,6,5,4,3,2,0,1] [4,3,2]] [yI ue]<|dF 124 ((↑g.aU.length:Int)≥8)<|a_<|zS<|zP 1 [yH [(5,yC wO)]] [.aa [132,124,119,102,79,48,20,7,6,5,4,3,2,0,1] [4,3,2]] [yI wO]<|dF 132 ((-1:Int)≥0)<|a_<|zS<|zq<|zB 2 (zL (fun (i:Nat)=>(⟨[(132,ao (decide ((-1:Int)≥0))),(124,ao (decide ((↑g.aU.length:Int)≥8))),(119,ao (e.kind == (4:Int))),(102,ao (e.kind == (3:Int))),(79,ao (e.kind == (2:Int))),(48,ao (e.kind == (1:Int))),(20,ai e.kind),(7,ai (dZ g.aq e.name)),(6,ai (↑g.aq.length:Int)),(4,AV.addr 4 0),(3,AV.addr 3 0),(2,AV.addr 2 0),(0,AV.agg (dA g)),(1,AV.agg (bf e)),(8,ai i)],[(4,⟨1,false,true,[ai 0,ez,ai 0,AV.nil,AV.nil]⟩),(3,⟨1,false,true,(bf e)⟩),(2,⟨1,false,true,List.map (aF 4) (List.map (aF 3) (List.map (aF 2) (dA g)))⟩)]⟩:AS)) (fun i=>(i≤e.dep.ae.length∧ff (tK g e.dep.ae) i=0)) (fun i=>(e.dep.ae.length-i)) (0) ?_ (zW [.aa [132,124,119,102,79,48,20,7,6,4,3,2,0,1,8] [4,3,2]]) ?_)
   ·exact ⟨ag,rfl⟩
   rintro i ⟨hi,h0⟩
   refine zS<|zP 1 [yH [(4,{k:=(af ay e.dep.ae).length})]] [.aa [139,132,124,119,102,79,48,20,7,6,4,3,2,0,1,8] [4,3,2]] [yR ((af ay e.dep.ae).length)] (zD 139 ((↑i:Int)<(↑(af ay e.dep.ae).length:Int)) (fun q=>?_) (fun q=>?_))
   ·have dI:i<e.dep.ae.length:=ag
    have gM:=i6 dI
    have xO:=mU g.aq (e.dep.ae.getD i default) ag
    rcases gU g.aq (e.dep.ae.getD i default) with hm|⟨k,hm,S6,-⟩
    ·have hs:tK g e.dep.ae i=11:=if_pos ag
     have Rx:ff (tK g e.dep.ae) (i+1)=11:=by show (if _ then _ else _)=_;rw [if_neg ag,hs]
     rw [lN ag Rx _ dI] at ce
     have cg:c_ g e=g:=if_pos ag
     rw [BS] at ce;rw [th] at cg
     subst ce cg
     rw [hm] at xO
     refine a_<|zS<|zB 3<|zP 1 [{hs:=[(6,{k:=i}),(7,yV (cV (e.dep.ae.getD i default))),(8,yC xO)],T:=8}] [.aa [151,139,132,124,119,102,79,48,20,7,6,4,3,2,0,1,8] [4,3,2]] [yR (↑i:Int),yO (i<(af ay e.dep.ae).length),yI gM,yI xO]<|iw 151 ((-1:Int)<0)<|zP 1 [{}] [.aa [5,151,139,132,124,119,102,79,48,20,7,6,4,3,2,0,1,8] [4,3,2]] [yL 5 5]<|zR<|bc<|aK<|dN<|bc<|aK<|bc<|aK (bP)
    ·have hs:tK g e.dep.ae i=0:=if_neg ag
     rw [hm] at xO
     refine a_<|zS<|zB 3<|zP 1 [{hs:=[(6,{k:=i}),(7,yV (cV (e.dep.ae.getD i default))),(8,yC xO)],T:=8}] [.aa [151,139,132,124,119,102,79,48,20,7,6,4,3,2,0,1,8] [4,3,2]] [yR (↑i:Int),yO (i<(af ay e.dep.ae).length),yI gM,yI xO]<|dF 151 ((↑k:Int)<0)<|zK<|aJ<|al<|zX (yH [(1,yV (ai ((↑i:Int)+1)))]) [yN ((↑i:Int)+1)] (aH (i+1) ⟨ag,by show (if _ then _ else _)=_;rw [if_neg ag,hs]⟩ ag (zW [.aa [132,124,119,102,79,48,20,7,6,4,3,2,0,1,8] [4,3,2]]))
   ·have ei:i=e.dep.ae.length:=ag
    subst ei
    rw [h0] at ce
    have cg:c_ g e=⟨g.aC,g.head,g.bA,g.aq,g.aU++ [e.dep]⟩:=by unfold c_;rw [if_neg ag,if_neg k1,if_neg k2,if_neg k3,if_pos k4]
    rw [BS] at ce;rw [th] at cg
    subst ce cg
    have s1:af bj g.aU++bj e.dep=af bj (g.aU++ [e.dep]):=fR _ _
    refine zE 2<|a6<|aM<|bm<|al<|Ax 6 [2] [(2,{b:=false}),(6,yV (AV.arr (af bj (g.aU++ [e.dep]))))] [yB (cp (af bj g.aU)) (dm (fun x=>dr rfl) _),yO ((0+(af bj g.aU).length)*104≤985162418487296),yR (AV.addr 3 7),yR (AV.agg (bj e.dep)),yR (AV.sl 7 (bj e.dep)),yI s1,yO (((af bj g.aU).length+7)*104≤985162418487296),yL 5 5]<|aJ<|al (⟨(),rfl,(zW [.gR 159,.aa [7,6,4,3,2,0,1] [4,3,2]])⟩)
  have k5:e.kind=5:=ag
  have ce:gW g e=if wP g.aU e.bV=g.aU.length then 11 else if (g.aU.getD (wP g.aU e.bV) default).target≠0 then 18 else 0:=by unfold gW;rw [if_neg k1,if_neg k2,if_neg k3,if_neg k4]
  rcases oV g.aU e.bV with ⟨hf,hk⟩|⟨k,hf,hk,iY⟩
  ·rw [if_pos hf] at ce
   have cg:c_ g e=g:=if_pos ag
   rw [BS] at ce;rw [th] at cg
   subst ce cg
   rw [hk] at BN
   refine zq<|zB 0<|zP 1 [{}] [.aa [48,20,7,6,5,4,3,2,0,1] [4,3,2]] []<|bk 48 (e.kind == (1:Int)) bD<|zq<|bk 79 (e.kind == (2:Int)) bD<|zP 1 [{}] [.aa [102,79,48,20,7,6,5,4,3,2,0,1] [4,3,2]] []<|bk 102 (e.kind == (3:Int)) bD<|zq<|bk 119 (e.kind == (4:Int)) bD<|zP 1 [yH [(4,yC BN)]] [.aa [9,119,102,79,48,20,7,6,5,4,3,2,0,1] [4,3,2]] [yI BN]<|zS<|zq<|iw 27 ((-1:Int)<0)<|zP 1 [{}] [.aa [5,27,9,119,102,79,48,20,7,6,4,3,2,0,1] [4,3,2]] [yL 5 5]<|dC<|bc<|aK (bP)
  rw [if_neg ag,hf] at ce
  rw [hk] at BN
  have gM:=Ad iY
  by_cases c1:(g.aU.getD k default).target=0
  case neg =>
   rw [if_pos c1] at ce
   have cg:c_ g e=g:=if_pos ag
   rw [BS] at ce;rw [th] at cg
   subst ce cg
   refine zq<|zB 0<|zP 1 [{}] [.aa [48,20,7,6,5,4,3,2,0,1] [4,3,2]] []<|bk 48 (e.kind == (1:Int)) bD<|zq<|bk 79 (e.kind == (2:Int)) bD<|zP 1 [{}] [.aa [102,79,48,20,7,6,5,4,3,2,0,1] [4,3,2]] []<|bk 102 (e.kind == (3:Int)) bD<|zq<|bk 119 (e.kind == (4:Int)) bD<|zP 1 [yH [(4,yC BN)]] [.aa [9,119,102,79,48,20,7,6,5,4,3,2,0,1] [4,3,2]] [yI BN]<|zS<|zq<|dF 27 ((↑k:Int)<0)<|a_<|zS<|zP 1 [yH [(3,{k:=k}),(5,yV (aw ((G.aU.getD k default).target))),(6,yV (ao ((G.aU.getD k default).target != 0)))]] [.aa [35,27,9,119,102,79,48,20,7,6,5,4,3,2,0,1] [4,3,2]] [yR (↑k:Int),yO (k*7<(af bj G.aU).length),yA bj G.aU k 6,yI (cG ((G.aU.getD k default).target) 0)]<|dB 35 ((G.aU.getD k default).target != 0) (by simp_all)<|zP 1 [{}] [.aa [5,35,27,9,119,102,79,48,20,7,6,4,3,2,0,1] [4,3,2]] [yL 5 5]<|dC<|bc<|aK (bP)
  rw [if_neg (fun q=>q c1)] at ce
  have cg:c_ g e=⟨g.aC,g.head,g.bA,g.aq,uV g.aU k e.target⟩:=by unfold c_;rw [if_neg ag,if_neg k1,if_neg k2,if_neg k3,if_neg k4,hf]
  rw [BS] at ce;rw [th] at cg
  subst ce cg
  have s1:=Cf iY e.target
  refine zq<|zB 0<|zP 1 [{}] [.aa [48,20,7,6,5,4,3,2,0,1] [4,3,2]] []<|bk 48 (e.kind == (1:Int)) bD<|zq<|bk 79 (e.kind == (2:Int)) bD<|zP 1 [{}] [.aa [102,79,48,20,7,6,5,4,3,2,0,1] [4,3,2]] []<|bk 102 (e.kind == (3:Int)) bD<|zq<|bk 119 (e.kind == (4:Int)) bD<|zP 1 [yH [(4,yC BN)]] [.aa [9,119,102,79,48,20,7,6,5,4,3,2,0,1] [4,3,2]] [yI BN]<|zS<|zq<|dF 27 ((↑k:Int)<0)<|a_<|zS<|zP 1 [yH [(3,{k:=k}),(5,yV (aw ((g.aU.getD k default).target))),(6,yV (ao false))]] [.aa [35,27,9,119,102,79,48,20,7,6,5,4,3,2,0,1] [4,3,2]] [yR (↑k:Int),yO (k*7<(af bj g.aU).length),yA bj g.aU k 6,yB (ao (wv (g.aU.getD k default).target != (0:Int))=ao false) (by rw [c1];rfl)]<|zF 35<|a_<|zP 2 [yH [(2,{b:=false})],yH [(4,{k:=k}),(6,yV (AV.arr (af bj (uV g.aU k e.target))))]] [.aa [41,10,35,27,9,119,102,79,48,20,7,6,5,4,3,2,0,1] [39,4,3,2]] [yB (cp (af bj g.aU)) (dm (fun x=>dr rfl) _),yO ((0+(af bj g.aU).length)*104≤985162418487296),yR (↑k:Int),yO (k*7<(af bj g.aU).length),yI s1,yO (k*7+6+1≤(af bj g.aU).length)]<|zX {} [yL 5 5]<|aJ<|al (⟨(),rfl,(zW [.gR 39,.aa [7,6,4,3,2,0,1] [4,3,2]])⟩)
 ·intro x hx
  subst hx
  refine zP 1 [{}] [.aa [5,7,6,4,3,2,0,1] [4,3,2]] [yL 5 5]<|zR (bP)
end Go.Proofs.YtjgbhhnghedgdaaGreatDoor
