import Derived.Test.YtjgbhhnghedgdaaGreatDoorZaTk7r
set_option linter.all false
namespace Go.Proofs.YtjgbhhnghedgdaaGreatDoor
open Go.RowKit
set_option maxRecDepth 100000
set_option maxHeartbeats 4000000
structure nT (g:gK):Prop where
 T0:0≤g.aB
 Qh:g.aB≤2147483647
 m8:g.al.length≤8
 t0:0≤g.bt
 t1:g.bt≤8
 d8:g.aK.length≤8
theorem yE {l:List m0} {i:Nat} (h:i<l.length):List.take 7 (List.drop (i*7) (af bc l))=bc (l.getD i default):=jn (e:=7) (fun _=>rfl) h
theorem Bn {l:List m0} {k:Nat} (hk:k<l.length) (t:UInt64):(af bc l).set (k*7+6) (aw t)=af bc (qP l k t):=by
 unfold qP
 induction l generalizing k with
 | nil=>cases hk
 | cons m l ih =>
  cases k with
  | zero=>rfl
  | succ k =>
   have:=ih (k:=k) (by simpa using hk)
   rw [show (k+1)*7+6=k*7+6+7 by omega]
   show bc m++(af bc l).set (k*7+6) (aw t)=bc m++af bc (l.set k {l.getD k default with target:=t})
   rw [this]
theorem Lv (l:List Mem) (k:Nat):(af aH l).take (k*4)++(af aH l).drop ((k+1)*4)=af aH (po l k):=by
 rw [oh (e:=4) (fun _=>rfl),oi (e:=4) (fun _=>rfl),fB];rfl
theorem oa (l:List m0) (p:UInt64):(vr l p=l.length∧Dl l p= -1)∨ ∃k:Nat,vr l p=k∧Dl l p=k∧k<l.length:=by
 unfold Dl
 by_cases h:vr l p<l.length
 ·exact .inr ⟨_,rfl,if_pos h,h⟩
 ·have:vr l p≤l.length:=List.findIdx_le_length
  exact .inl ⟨ah,if_neg h⟩
theorem vB (g:gK) (e:eF) (hG:nT g) (h1:1≤e.kind) (h5:e.kind≤5) (ht:e.kind=3->1≤e.bt∧e.bt≤8) (hh:e.dep.aa.length≤1000000):bK Tryz.prog 63 [.agg (bB g),.agg (aT e)] (.bq [.agg (bB (cQ g e)),ai (gI g e)]):=by
 obtain ⟨g1,g2,g3,g4,g5,g6⟩:=hG
 have mb:(af aH g.al).length=g.al.length*4:=aF (e:=4) (fun _=>rfl) ..
 have qD:(af bc g.aK).length=g.aK.length*7:=aF (e:=7) (fun _=>rfl) ..
 have m7:=mj g.al e.name ah
 have CB:=pO g.aK e.dep.bR ah
 have IB:=pO g.aK e.bR ah
 generalize s9:cQ g e=G
 generalize A3:gI g e=E
 refine zO Tryz.func63 162<|zP 3 [{},yH [(2,{k:=g.al.length})],yH [(4,yV (ai (dF g.al e.name)))]] [.ae [7,6,5,4,3,2,0,1] [4,3,2]] [yI mb,yI m7] (bf.oN (fun (x:Unit)=>(⟨[(7,ai (dF g.al e.name)),(6,ai (↑g.al.length:Int)),(4,AV.addr 4 0),(3,AV.addr 3 0),(2,AV.addr 2 0),(0,AV.agg (bB g)),(1,AV.agg (aT e))],[(4,⟨1,false,true,[ai 0,cO,ai 0,AV.nil,AV.nil]⟩),(3,⟨1,false,true,(aT e)⟩),(2,⟨1,false,true,bB G⟩)]⟩:AS)) (fun x=>(E=0)) bh ?_ ?_)
 ·by_cases k1:e.kind=1
  ·have ce:gI g e=if 0≤dF g.al e.name then 10 else if 8≤g.al.length then 12 else 0:=if_pos k1
   by_cases c1:0≤dF g.al e.name
   ·rw [if_pos c1] at ce
    have cg:cQ g e=g:=if_pos ah
    rw [A3] at ce;rw [s9] at cg
    subst ce cg
    refine zq<|zB 0<|zP 1 [{}] [.ae [48,20,7,6,5,4,3,2,0,1] [4,3,2]] []<|du 48 (e.kind == (1:Int)) fb<|zS<|zB 1<|zP 1 [{}] [.ae [50,48,20,7,6,5,4,3,2,0,1] [4,3,2]] []<|gT 50 (dF G.al e.name≥0)<|zP 1 [{}] [.ae [5,50,48,20,7,6,4,3,2,0,1] [4,3,2]] [yL 5 5]<|zR<|aY<|aI<|aY<|aI (bV)
   by_cases c2:8≤g.al.length
   ·rw [if_neg c1,if_pos c2] at ce
    have cg:cQ g e=g:=if_pos ah
    rw [A3] at ce;rw [s9] at cg
    subst ce cg
    refine zq<|zB 0<|zP 1 [{}] [.ae [48,20,7,6,5,4,3,2,0,1] [4,3,2]] []<|du 48 (e.kind == (1:Int)) fb<|zS<|zB 1<|zP 1 [{}] [.ae [50,48,20,7,6,5,4,3,2,0,1] [4,3,2]] []<|dp 50 (dF G.al e.name≥0)<|zP 1 [{}] [.ae [54,50,48,20,7,6,5,4,3,2,0,1] [4,3,2]] []<|gT 54 ((↑G.al.length:Int)≥8)<|zP 1 [{}] [.ae [5,54,50,48,20,7,6,4,3,2,0,1] [4,3,2]] [yL 5 5]<|zR<|aY<|aI<|aY<|aI (bV)
   rw [if_neg c1,if_neg c2] at ce
   have s1:af aH g.al++aH ⟨e.name,e.kh,e.kr,0⟩=af aH (g.al++ [⟨e.name,e.kh,e.kr,0⟩]):=fV _ _
   by_cases c3:2*g.bt≤g.al.length+1
   ·have cg:cQ g e=⟨g.aB,g.head,g.bt+1,g.al++ [⟨e.name,e.kh,e.kr,0⟩],g.aK⟩:=by unfold cQ;rw [if_neg ah,if_pos k1,if_pos c3]
    rw [A3] at ce;rw [s9] at cg
    subst ce cg
    refine zq<|zB 0<|zP 1 [{}] [.ae [48,20,7,6,5,4,3,2,0,1] [4,3,2]] []<|du 48 (e.kind == (1:Int)) fb<|zS<|zB 1<|zP 1 [{}] [.ae [50,48,20,7,6,5,4,3,2,0,1] [4,3,2]] []<|dp 50 (dF g.al e.name≥0)<|zP 1 [{}] [.ae [54,50,48,20,7,6,5,4,3,2,0,1] [4,3,2]] []<|dp 54 ((↑g.al.length:Int)≥8)<|zK<|aM<|ak<|zS<|zP 1 [yH [(2,yV (ai ((2:Int)*g.bt))),(4,yV (ai ((↑g.al.length:Int)+1)))]] [.ae [63,54,50,48,20,7,6,5,4,3,2,0,1] [4,3,2]] [yN ((2:Int)*g.bt),yN ((↑g.al.length:Int)+1)]<|gT 63 ((2:Int)*g.bt≤(↑g.al.length:Int)+1)<|zX (yH [(2,yV (ai (g.bt+1)))]) [yN (g.bt+1),yL 3 5]<|ak<|y9 9 [2] [(2,{b:=false}),(9,yV (AV.arr (af aH (g.al++ [Mem.mk e.name e.kh e.kr 0]))))] [yB (cE (af aH g.al)) (dD (fun x=>dJ rfl) _),yO ((0+(af aH g.al).length)*40≤562949953421312),yR (AV.addr 3 3),yR (db e.name),yR (AV.addr 3 4),yR (AV.agg [ai e.kh,aw e.kr]),yR (AV.agg [db e.name,ai e.kh,aw e.kr,cO]),yR (AV.sl 4 [db e.name,ai e.kh,aw e.kr,cO]),yI s1,yO (((af aH g.al).length+4)*40≤562949953421312),yL 4 5]<|aM<|ak (⟨(),rfl,(zW [.gN 77,.ae [7,6,4,3,2,0,1] [4,3,2]])⟩)
   ·have cg:cQ g e=⟨g.aB,g.head,g.bt,g.al++ [⟨e.name,e.kh,e.kr,0⟩],g.aK⟩:=by unfold cQ;rw [if_neg ah,if_pos k1,if_neg c3]
    rw [A3] at ce;rw [s9] at cg
    subst ce cg
    refine zq<|zB 0<|zP 1 [{}] [.ae [48,20,7,6,5,4,3,2,0,1] [4,3,2]] []<|du 48 (e.kind == (1:Int)) fb<|zS<|zB 1<|zP 1 [{}] [.ae [50,48,20,7,6,5,4,3,2,0,1] [4,3,2]] []<|dp 50 (dF g.al e.name≥0)<|zP 1 [{}] [.ae [54,50,48,20,7,6,5,4,3,2,0,1] [4,3,2]] []<|dp 54 ((↑g.al.length:Int)≥8)<|zK<|aM<|ak<|zS<|bf.jW 1 [{hs:=[(2,{av:=some (ai ((2:Int)*g.bt))}),(4,{av:=some (ai ((↑g.al.length:Int)+1))})]}] [.ae [63,54,50,48,20,7,6,5,4,3,2,0,1] [4,3,2]] bh (s':=AS.mk [(63,ao (decide ((2:Int)*g.bt≤(↑g.al.length:Int)+1))),(54,ao (decide ((↑g.al.length:Int)≥8))),(50,ao (decide (dF g.al e.name≥0))),(48,ao (e.kind == (1:Int))),(20,ai e.kind),(7,ai (dF g.al e.name)),(6,ai (↑g.al.length:Int)),(5,ai 0),(4,AV.addr 4 0),(3,AV.addr 3 0),(2,AV.addr 2 0),(0,AV.agg (bB g)),(1,AV.agg (aT e))] [(4,Row.mk 1 false true [ai 0,cO,ai 0,AV.nil,AV.nil]),(3,Row.mk 1 false true (aT e)),(2,Row.mk 1 false true (List.map (aD 4) (List.map (aD 3) (List.map (aD 2) (bB g)))))]) (C:=[ai (IntKind.i64.wrap ((2:Int)*g.bt))=ai ((2:Int)*g.bt),ai (IntKind.i64.wrap ((↑g.al.length:Int)+1))=ai ((↑g.al.length:Int)+1)]) bh ⟨(dG ah ah),(dG ah ah),trivial⟩<|dp 63 ((2:Int)*g.bt≤(↑g.al.length:Int)+1)<|a_<|y9 9 [2] [(2,{b:=false}),(9,yV (AV.arr (af aH (g.al++ [Mem.mk e.name e.kh e.kr 0]))))] [yB (cE (af aH g.al)) (dD (fun x=>dJ rfl) _),yO ((0+(af aH g.al).length)*40≤562949953421312),yR (AV.addr 3 3),yR (db e.name),yR (AV.addr 3 4),yR (AV.agg [ai e.kh,aw e.kr]),yR (AV.agg [db e.name,ai e.kh,aw e.kr,cO]),yR (AV.sl 4 [db e.name,ai e.kh,aw e.kr,cO]),yI s1,yO (((af aH g.al).length+4)*40≤562949953421312),yL 4 5]<|aM<|ak (⟨(),rfl,(zW [.gN 77,.ae [7,6,4,3,2,0,1] [4,3,2]])⟩)
  by_cases k2:e.kind=2
  ·have ce:gI g e=if dF g.al e.name<0 then 11 else if (g.al.length:Int)-1<g.bt then 41 else 0:=by unfold gI;rw [if_neg k1,if_pos k2]
   rcases gF g.al e.name with hk|⟨k,hk,iG,PQ⟩
   ·rw [if_pos ah] at ce
    have cg:cQ g e=g:=if_pos ah
    rw [A3] at ce;rw [s9] at cg
    subst ce cg
    rw [hk] at m7
    refine zq<|zB 0<|zP 1 [{}] [.ae [48,20,7,6,5,4,3,2,0,1] [4,3,2]] []<|bj 48 (e.kind == (1:Int)) bE<|zq<|du 79 (e.kind == (2:Int)) fb<|zS<|zP 1 [{}] [.ae [82,79,48,20,7,6,5,4,3,2,0,1] [4,3,2]] []<|gT 82 (dF G.al e.name<0)<|zP 1 [{}] [.ae [5,82,79,48,20,7,6,4,3,2,0,1] [4,3,2]] [yL 5 5]<|dk<|aY<|aI (bV)
   rw [if_neg ah] at ce
   rw [hk] at m7
   have oA:AV.val (.int .i64 (dF g.al e.name))=ai k:=by rw [hk]
   by_cases c2:(g.al.length:Int)-1<g.bt
   ·rw [if_pos c2] at ce
    have cg:cQ g e=g:=if_pos ah
    rw [A3] at ce;rw [s9] at cg
    subst ce cg
    refine zq<|zB 0<|zP 1 [{}] [.ae [48,20,7,6,5,4,3,2,0,1] [4,3,2]] []<|bj 48 (e.kind == (1:Int)) bE<|zq<|du 79 (e.kind == (2:Int)) fb<|zS<|zP 1 [{}] [.ae [82,79,48,20,7,6,5,4,3,2,0,1] [4,3,2]] []<|dp 82 (dF G.al e.name<0)<|a_<|zS<|zP 1 [yH [(3,yV (ai ((↑G.al.length:Int)-1)))]] [.ae [88,82,79,48,20,7,6,5,4,3,2,0,1] [4,3,2]] [yN ((↑G.al.length:Int)-1)]<|gT 88 (G.bt>(↑G.al.length:Int)-1)<|zP 1 [{}] [.ae [5,88,82,79,48,20,7,6,4,3,2,0,1] [4,3,2]] [yL 5 5]<|dk<|aY<|aI (bV)
   rw [if_neg c2] at ce
   have cg:cQ g e=⟨g.aB,g.head,g.bt,po g.al k,g.aK⟩:=by unfold cQ;rw [if_neg ah,if_neg k1,if_pos k2,hk];rfl
   rw [A3] at ce;rw [s9] at cg
   subst ce cg
   have s1:=Lv g.al k
   have oP:cE (af aH g.al):=dD (fun x=>dJ rfl) _
   have PH:cE ((af aH g.al).take (k*4)):=fun x hx=>oP x (List.mem_of_mem_take hx)
   have Oo:cE ((af aH g.al).drop ((k+1)*4)):=fun x hx=>oP x (List.mem_of_mem_drop hx)
   refine zq<|zB 0<|zP 1 [{}] [.ae [48,20,7,6,5,4,3,2,0,1] [4,3,2]] []<|bj 48 (e.kind == (1:Int)) bE<|zq<|du 79 (e.kind == (2:Int)) fb<|zS<|zP 1 [{}] [.ae [82,79,48,20,7,6,5,4,3,2,0,1] [4,3,2]] []<|dp 82 (dF g.al e.name<0)<|a_<|zS<|zP 1 [yH [(3,yV (ai ((↑g.al.length:Int)-1)))]] [.ae [88,82,79,48,20,7,6,5,4,3,2,0,1] [4,3,2]] [yN ((↑g.al.length:Int)-1)]<|dp 88 (g.bt>(↑g.al.length:Int)-1)<|a_<|y9 10 [4] [(2,yV (ai ↑k)),(3,{m:=k}),(4,{b:=false}),(8,yV (ai (↑(k+1):Int))),(9,{k:=k+1}),(10,{av:=some (AV.arr (af aH (po g.al k))),b:=false})] [yI oA,yR (↑k:Int),yO (k*4≤(af aH g.al).length),yB (ai (IntKind.i64.wrap (dF g.al e.name+1))=ai (↑(k+1):Int)) (congrArg (fun n=>AV.val (.int .i64 n)) (by rw [IntKind.wrap_i64];omega)),yR (↑(k+1):Int),yO ((k+1)*4≤(af aH g.al).length),yI PH,yB ((0+(List.take (k*4) (af aH g.al)).length)*40≤562949953421312) (by simp only [List.length_take];omega),yR (AV.addr 2 3),yR (AV.sl 4 (af aH g.al)),yR (ai (dF g.al e.name)),yR (ai (↑(k+1):Int)),yB (ai (IntKind.i64.wrap (dF g.al e.name+1))=ai (↑(k+1):Int)) (congrArg (fun n=>AV.val (.int .i64 n)) (by rw [IntKind.wrap_i64];omega)),yR (AV.sl 4 (List.drop ((k+1)*4) (af aH g.al))),yR (↑(k+1):Int),yO ((k+1)*4≤(af aH g.al).length),yI s1,yI Oo,yB (((List.take (k*4) (af aH g.al)).length+(List.drop ((k+1)*4) (af aH g.al)).length)*40≤562949953421312) (by simp only [List.length_take,List.length_drop];omega),yL 4 5]<|aM<|ak (⟨(),rfl,(zW [.gN 100,.ae [7,6,4,3,2,0,1] [4,3,2]])⟩)
  by_cases k3:e.kind=3
  ·obtain ⟨t1,t2⟩:=ht k3
   have ce:gI g e=if (g.al.length:Int)<e.bt∨2*e.bt≤g.al.length then 41 else 0:=by unfold gI;rw [if_neg k1,if_neg k2,if_pos k3]
   by_cases c1:(g.al.length:Int)<e.bt
   ·rw [if_pos (.inl c1)] at ce
    have cg:cQ g e=g:=if_pos ah
    rw [A3] at ce;rw [s9] at cg
    subst ce cg
    refine zq<|zB 0<|zP 1 [{}] [.ae [48,20,7,6,5,4,3,2,0,1] [4,3,2]] []<|bj 48 (e.kind == (1:Int)) bE<|zq<|bj 79 (e.kind == (2:Int)) bE<|zP 1 [{}] [.ae [102,79,48,20,7,6,5,4,3,2,0,1] [4,3,2]] []<|du 102 (e.kind == (3:Int)) fb<|zS<|zP 1 [{}] [.ae [114,102,79,48,20,7,6,5,4,3,2,0,1] [4,3,2]] (yM 6 (yT (e.bt>(↑G.al.length:Int))))<|zT 114<|zP 1 [{}] [.ae [5,114,102,79,48,20,7,6,4,3,2,0,1] [4,3,2]] [yL 5 5]<|dk<|aY<|aI (bV)
   by_cases c2:2*e.bt≤g.al.length
   ·rw [if_pos (.inr c2)] at ce
    have cg:cQ g e=g:=if_pos ah
    rw [A3] at ce;rw [s9] at cg
    subst ce cg
    refine zq<|zB 0<|zP 1 [{}] [.ae [48,20,7,6,5,4,3,2,0,1] [4,3,2]] []<|bj 48 (e.kind == (1:Int)) bE<|zq<|bj 79 (e.kind == (2:Int)) bE<|zP 1 [{}] [.ae [102,79,48,20,7,6,5,4,3,2,0,1] [4,3,2]] []<|du 102 (e.kind == (3:Int)) fb<|zS<|zP 1 [yH ([(7,{av:=some (ai ((2:Int)*e.bt)),g:=false}),(10,{b:=false})]++yg [5,6,8,9])] [.ae [114,102,79,48,20,7,6,5,4,3,2,0,1] [4,3,2]] (yM 3 (yF (e.bt>(↑G.al.length:Int)))++ [yN ((2:Int)*e.bt)]++yM 3 (yF (e.bt>(↑G.al.length:Int))))<|gT 114 ((2:Int)*e.bt≤(↑G.al.length:Int))<|zP 1 [{}] [.ae [5,114,102,79,48,20,7,6,4,3,2,0,1] [4,3,2]] [yL 5 5]<|dk<|aY<|aI (bV)
   rw [if_neg ah] at ce
   have cg:cQ g e=⟨g.aB,g.head,e.bt,g.al,g.aK⟩:=by unfold cQ;rw [if_neg ah,if_neg k1,if_neg k2,if_pos k3]
   rw [A3] at ce;rw [s9] at cg
   subst ce cg
   refine zq<|zB 0<|zP 1 [{}] [.ae [48,20,7,6,5,4,3,2,0,1] [4,3,2]] []<|bj 48 (e.kind == (1:Int)) bE<|zq<|bj 79 (e.kind == (2:Int)) bE<|zP 1 [{}] [.ae [102,79,48,20,7,6,5,4,3,2,0,1] [4,3,2]] []<|du 102 (e.kind == (3:Int)) fb<|zS<|zP 1 [yH ([(7,{av:=some (ai ((2:Int)*e.bt)),g:=false}),(10,{b:=false})]++yg [5,6,8,9])] [.ae [114,102,79,48,20,7,6,5,4,3,2,0,1] [4,3,2]] (yM 3 (yF (e.bt>(↑g.al.length:Int)))++ [yN ((2:Int)*e.bt)]++yM 3 (yF (e.bt>(↑g.al.length:Int))))<|dp 114 ((2:Int)*e.bt≤(↑g.al.length:Int))<|a_<|zX {} [yL 3 5]<|aM<|ak (⟨(),rfl,(zW [.ae [7,6,4,3,2,0,1] [4,3,2]])⟩)
  by_cases k4:e.kind=4
  ·have ce:gI g e=if 8≤g.aK.length then 12 else if vr g.aK e.dep.bR<g.aK.length then 10 else ff (sI g e.dep.aa) e.dep.aa.length:=by unfold gI;rw [if_neg k1,if_neg k2,if_neg k3,if_pos k4]
   by_cases c1:8≤g.aK.length
   ·rw [if_pos c1] at ce
    have cg:cQ g e=g:=if_pos ah
    rw [A3] at ce;rw [s9] at cg
    subst ce cg
    refine zq<|zB 0<|zP 1 [{}] [.ae [48,20,7,6,5,4,3,2,0,1] [4,3,2]] []<|bj 48 (e.kind == (1:Int)) bE<|zq<|bj 79 (e.kind == (2:Int)) bE<|zP 1 [{}] [.ae [102,79,48,20,7,6,5,4,3,2,0,1] [4,3,2]] []<|bj 102 (e.kind == (3:Int)) bE<|zq<|du 119 (e.kind == (4:Int)) fb<|zS<|zP 1 [yH [(2,{k:=G.aK.length})]] [.ae [124,119,102,79,48,20,7,6,5,4,3,2,0,1] [4,3,2]] [yI qD]<|gT 124 ((↑G.aK.length:Int)≥8)<|zP 1 [{}] [.ae [5,124,119,102,79,48,20,7,6,4,3,2,0,1] [4,3,2]] [yL 5 5]<|dk<|aY<|aI (bV)
   rw [if_neg c1] at ce
   rcases oa g.aK e.dep.bR with ⟨hf,hk⟩|⟨k,hf,hk,iG⟩
   case inr =>
    rw [if_pos ah] at ce
    have cg:cQ g e=g:=if_pos ah
    rw [A3] at ce;rw [s9] at cg
    subst ce cg
    rw [hk] at CB
    refine zq<|zB 0<|zP 1 [{}] [.ae [48,20,7,6,5,4,3,2,0,1] [4,3,2]] []<|bj 48 (e.kind == (1:Int)) bE<|zq<|bj 79 (e.kind == (2:Int)) bE<|zP 1 [{}] [.ae [102,79,48,20,7,6,5,4,3,2,0,1] [4,3,2]] []<|bj 102 (e.kind == (3:Int)) bE<|zq<|du 119 (e.kind == (4:Int)) fb<|zS<|zP 1 [yH [(2,{k:=G.aK.length})]] [.ae [124,119,102,79,48,20,7,6,5,4,3,2,0,1] [4,3,2]] [yI qD]<|dp 124 ((↑G.aK.length:Int)≥8)<|a_<|zS<|zP 1 [yH [(5,yV (ai ↑k))]] [.ae [132,124,119,102,79,48,20,7,6,5,4,3,2,0,1] [4,3,2]] [yI CB]<|gT 132 ((↑k:Int)≥0)<|zP 1 [{}] [.ae [5,132,124,119,102,79,48,20,7,6,4,3,2,0,1] [4,3,2]] [yL 5 5]<|dk<|aY<|aI (bV)
   rw [if_neg ah] at ce
   rw [hk] at CB
   have PS:(af ay e.dep.aa).length=e.dep.aa.length:=by rw [aF (e:=1) (fun _=>rfl)];omega
   refine zq<|zB 0<|zP 1 [{}] [.ae [48,20,7,6,5,4,3,2,0,1] [4,3,2]] []<|bj 48 (e.kind == (1:Int)) bE<|zq<|bj 79 (e.kind == (2:Int)) bE<|zP 1 [{}] [.ae [102,79,48,20,7,6,5,4,3,2,0,1] [4,3,2]] []<|bj 102 (e.kind == (3:Int)) bE<|zq<|du 119 (e.kind == (4:Int)) fb<|zS<|zP 1 [yH [(2,{k:=g.aK.length})]] [.ae [124,119,102,79,48,20,7,6,5,4,3,2,0,1] [4,3,2]] [yI qD]<|dp 124 ((↑g.aK.length:Int)≥8)<|a_<|zS<|zP 1 [yH [(5,yV (ai (-1:Int)))]] [.ae [132,124,119,102,79,48,20,7,6,5,4,3,2,0,1] [4,3,2]] [yI CB]<|dp 132 ((-1:Int)≥0)<|a_<|zS<|zq<|zB 2 (zL (fun (i:Nat)=>(⟨[(132,ao (decide ((-1:Int)≥0))),(124,ao (decide ((↑g.aK.length:Int)≥8))),(119,ao (e.kind == (4:Int))),(102,ao (e.kind == (3:Int))),(79,ao (e.kind == (2:Int))),(48,ao (e.kind == (1:Int))),(20,ai e.kind),(7,ai (dF g.al e.name)),(6,ai (↑g.al.length:Int)),(4,AV.addr 4 0),(3,AV.addr 3 0),(2,AV.addr 2 0),(0,AV.agg (bB g)),(1,AV.agg (aT e)),(8,ai i)],[(4,⟨1,false,true,[ai 0,cO,ai 0,AV.nil,AV.nil]⟩),(3,⟨1,false,true,(aT e)⟩),(2,⟨1,false,true,List.map (aD 4) (List.map (aD 3) (List.map (aD 2) (bB g)))⟩)]⟩:AS)) (fun i=>(i≤e.dep.aa.length∧ff (sI g e.dep.aa) i=0)) (fun i=>(e.dep.aa.length-i)) (0) ?_ (zW [.ae [132,124,119,102,79,48,20,7,6,4,3,2,0,1,8] [4,3,2]]) ?_)
   ·exact ⟨ah,rfl⟩
   rintro i ⟨hi,h0⟩
   refine zS<|zP 1 [yH [(4,{k:=(af ay e.dep.aa).length})]] [.ae [139,132,124,119,102,79,48,20,7,6,4,3,2,0,1,8] [4,3,2]] [yR ((af ay e.dep.aa).length)] (zD 139 ((↑i:Int)<(↑(af ay e.dep.aa).length:Int)) (fun q=>?_) (fun q=>?_))
   ·have dz:i<e.dep.aa.length:=ah
    have gh:=iK dz
    have Ev:=mj g.al (e.dep.aa.getD i default) ah
    rcases gF g.al (e.dep.aa.getD i default) with hm|⟨k,hm,RV,-⟩
    ·have hs:sI g e.dep.aa i=11:=if_pos ah
     have QF:ff (sI g e.dep.aa) (i+1)=11:=by show (if _ then _ else _)=_;rw [if_neg ah,hs]
     rw [ld ah QF _ dz] at ce
     have cg:cQ g e=g:=if_pos ah
     rw [A3] at ce;rw [s9] at cg
     subst ce cg
     rw [hm] at Ev
     refine a_<|zS<|zB 3<|zP 1 [{hs:=[(6,{k:=i}),(7,yV (db (e.dep.aa.getD i default))),(8,yV (ai (-1:Int)))],T:=8}] [.ae [151,139,132,124,119,102,79,48,20,7,6,4,3,2,0,1,8] [4,3,2]] [yR (↑i:Int),yO (i<(af ay e.dep.aa).length),yI gh,yI Ev]<|gT 151 ((-1:Int)<0)<|zP 1 [{}] [.ae [5,151,139,132,124,119,102,79,48,20,7,6,4,3,2,0,1,8] [4,3,2]] [yL 5 5]<|zR<|aY<|aI<|c_<|aY<|aI<|aY<|aI (bV)
    ·have hs:sI g e.dep.aa i=0:=if_neg ah
     rw [hm] at Ev
     refine a_<|zS<|zB 3<|zP 1 [{hs:=[(6,{k:=i}),(7,yV (db (e.dep.aa.getD i default))),(8,yV (ai ↑k))],T:=8}] [.ae [151,139,132,124,119,102,79,48,20,7,6,4,3,2,0,1,8] [4,3,2]] [yR (↑i:Int),yO (i<(af ay e.dep.aa).length),yI gh,yI Ev]<|dp 151 ((↑k:Int)<0)<|zK<|aM<|ak<|zX (yH [(1,yV (ai ((↑i:Int)+1)))]) [yN ((↑i:Int)+1)] (aJ (i+1) ⟨ah,by show (if _ then _ else _)=_;rw [if_neg ah,hs]⟩ ah (zW [.ae [132,124,119,102,79,48,20,7,6,4,3,2,0,1,8] [4,3,2]]))
   ·have ei:i=e.dep.aa.length:=ah
    subst ei
    rw [h0] at ce
    have cg:cQ g e=⟨g.aB,g.head,g.bt,g.al,g.aK++ [e.dep]⟩:=by unfold cQ;rw [if_neg ah,if_neg k1,if_neg k2,if_neg k3,if_pos k4]
    rw [A3] at ce;rw [s9] at cg
    subst ce cg
    have s1:af bc g.aK++bc e.dep=af bc (g.aK++ [e.dep]):=fV _ _
    refine zE 2<|a7<|aO<|bn<|ak<|y9 6 [2] [(2,{b:=false}),(6,yV (AV.arr (af bc (g.aK++ [e.dep]))))] [yB (cE (af bc g.aK)) (dD (fun x=>dJ rfl) _),yO ((0+(af bc g.aK).length)*104≤985162418487296),yR (AV.addr 3 7),yR (AV.agg (bc e.dep)),yR (AV.sl 7 (bc e.dep)),yI s1,yO (((af bc g.aK).length+7)*104≤985162418487296),yL 5 5]<|aM<|ak (⟨(),rfl,(zW [.gN 159,.ae [7,6,4,3,2,0,1] [4,3,2]])⟩)
  have k5:e.kind=5:=ah
  have ce:gI g e=if vr g.aK e.bR=g.aK.length then 11 else if (g.aK.getD (vr g.aK e.bR) default).target≠0 then 18 else 0:=by unfold gI;rw [if_neg k1,if_neg k2,if_neg k3,if_neg k4]
  rcases oa g.aK e.bR with ⟨hf,hk⟩|⟨k,hf,hk,iG⟩
  ·rw [if_pos hf] at ce
   have cg:cQ g e=g:=if_pos ah
   rw [A3] at ce;rw [s9] at cg
   subst ce cg
   rw [hk] at IB
   refine zq<|zB 0<|zP 1 [{}] [.ae [48,20,7,6,5,4,3,2,0,1] [4,3,2]] []<|bj 48 (e.kind == (1:Int)) bE<|zq<|bj 79 (e.kind == (2:Int)) bE<|zP 1 [{}] [.ae [102,79,48,20,7,6,5,4,3,2,0,1] [4,3,2]] []<|bj 102 (e.kind == (3:Int)) bE<|zq<|bj 119 (e.kind == (4:Int)) bE<|zP 1 [yH [(4,yV (ai (-1:Int)))]] [.ae [9,119,102,79,48,20,7,6,5,4,3,2,0,1] [4,3,2]] [yI IB]<|zS<|zq<|gT 27 ((-1:Int)<0)<|zP 1 [{}] [.ae [5,27,9,119,102,79,48,20,7,6,4,3,2,0,1] [4,3,2]] [yL 5 5]<|dk<|aY<|aI (bV)
  rw [if_neg ah,hf] at ce
  rw [hk] at IB
  have gh:=yE iG
  by_cases c1:(g.aK.getD k default).target=0
  case neg =>
   rw [if_pos c1] at ce
   have cg:cQ g e=g:=if_pos ah
   rw [A3] at ce;rw [s9] at cg
   subst ce cg
   refine zq<|zB 0<|zP 1 [{}] [.ae [48,20,7,6,5,4,3,2,0,1] [4,3,2]] []<|bj 48 (e.kind == (1:Int)) bE<|zq<|bj 79 (e.kind == (2:Int)) bE<|zP 1 [{}] [.ae [102,79,48,20,7,6,5,4,3,2,0,1] [4,3,2]] []<|bj 102 (e.kind == (3:Int)) bE<|zq<|bj 119 (e.kind == (4:Int)) bE<|zP 1 [yH [(4,yV (ai ↑k))]] [.ae [9,119,102,79,48,20,7,6,5,4,3,2,0,1] [4,3,2]] [yI IB]<|zS<|zq<|dp 27 ((↑k:Int)<0)<|a_<|zS<|zP 1 [yH [(3,{k:=k}),(5,yV (aw ((G.aK.getD k default).target))),(6,yV (ao ((G.aK.getD k default).target != 0)))]] [.ae [35,27,9,119,102,79,48,20,7,6,5,4,3,2,0,1] [4,3,2]] [yR (↑k:Int),yO (k*7<(af bc G.aK).length),yA bc G.aK k 6,yI (cJ ((G.aK.getD k default).target) 0)]<|du 35 ((G.aK.getD k default).target != 0) (by simp_all)<|zP 1 [{}] [.ae [5,35,27,9,119,102,79,48,20,7,6,4,3,2,0,1] [4,3,2]] [yL 5 5]<|dk<|aY<|aI (bV)
  rw [if_neg (fun q=>q c1)] at ce
  have cg:cQ g e=⟨g.aB,g.head,g.bt,g.al,qP g.aK k e.target⟩:=by unfold cQ;rw [if_neg ah,if_neg k1,if_neg k2,if_neg k3,if_neg k4,hf]
  rw [A3] at ce;rw [s9] at cg
  subst ce cg
  have s1:=Bn iG e.target
  refine zq<|zB 0<|zP 1 [{}] [.ae [48,20,7,6,5,4,3,2,0,1] [4,3,2]] []<|bj 48 (e.kind == (1:Int)) bE<|zq<|bj 79 (e.kind == (2:Int)) bE<|zP 1 [{}] [.ae [102,79,48,20,7,6,5,4,3,2,0,1] [4,3,2]] []<|bj 102 (e.kind == (3:Int)) bE<|zq<|bj 119 (e.kind == (4:Int)) bE<|zP 1 [yH [(4,yV (ai ↑k))]] [.ae [9,119,102,79,48,20,7,6,5,4,3,2,0,1] [4,3,2]] [yI IB]<|zS<|zq<|dp 27 ((↑k:Int)<0)<|a_<|zS<|zP 1 [yH [(3,{k:=k}),(5,yV (aw ((g.aK.getD k default).target))),(6,yV (ao false))]] [.ae [35,27,9,119,102,79,48,20,7,6,5,4,3,2,0,1] [4,3,2]] [yR (↑k:Int),yO (k*7<(af bc g.aK).length),yA bc g.aK k 6,yB (ao (wv (g.aK.getD k default).target != (0:Int))=ao false) (by rw [c1];rfl)]<|zF 35<|a_<|zP 2 [yH [(2,{b:=false})],yH [(4,{k:=k}),(6,yV (AV.arr (af bc (qP g.aK k e.target))))]] [.ae [41,10,35,27,9,119,102,79,48,20,7,6,5,4,3,2,0,1] [39,4,3,2]] [yB (cE (af bc g.aK)) (dD (fun x=>dJ rfl) _),yO ((0+(af bc g.aK).length)*104≤985162418487296),yR (↑k:Int),yO (k*7<(af bc g.aK).length),yI s1,yO (k*7+6+1≤(af bc g.aK).length)]<|zX {} [yL 5 5]<|aM<|ak (⟨(),rfl,(zW [.gN 39,.ae [7,6,4,3,2,0,1] [4,3,2]])⟩)
 ·intro x hx
  subst hx
  refine zP 1 [{}] [.ae [5,7,6,4,3,2,0,1] [4,3,2]] [yL 5 5]<|zR (bV)
end Go.Proofs.YtjgbhhnghedgdaaGreatDoor
