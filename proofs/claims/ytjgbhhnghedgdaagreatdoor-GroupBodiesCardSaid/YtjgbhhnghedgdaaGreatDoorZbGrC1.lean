import Derived.Test.YtjgbhhnghedgdaaGreatDoorZbTk7r
set_option linter.all false
namespace Go.Proofs.YtjgbhhnghedgdaaGreatDoor
open Go.RowKit
set_option maxRecDepth 100000
set_option maxHeartbeats 4000000
structure qD (g:gX):Prop where
 Vv:0≤g.aB
 QP:g.aB≤2147483647
 m8:g.al.length≤8
 t0:0≤g.bA
 t1:g.bA≤8
 d8:g.aO.length≤8
theorem yr {l:List na} {i:Nat} (h:i<l.length):List.take 7 (List.drop (i*7) (ae bg l))=bg (l.getD i default):=ku (e:=7) (fun _=>rfl) h
theorem Be {l:List na} {k:Nat} (hk:k<l.length) (t:UInt64):(ae bg l).set (k*7+6) (aw t)=ae bg (qP l k t):=by
 unfold qP
 induction l generalizing k with
 | nil=>cases hk
 | cons m l ih =>
  cases k with
  | zero=>rfl
  | succ k =>
   have:=ih (k:=k) (by simpa using hk)
   rw [show (k+1)*7+6=k*7+6+7 by omega]
   show bg m++(ae bg l).set (k*7+6) (aw t)=bg m++ae bg (l.set k {l.getD k default with target:=t})
   rw [this]
theorem Li (l:List Mem) (k:Nat):(ae aF l).take (k*4)++(ae aF l).drop ((k+1)*4)=ae aF (pn l k):=by
 rw [oi (e:=4) (fun _=>rfl),om (e:=4) (fun _=>rfl),fE];rfl
theorem ob (l:List na) (p:UInt64):(vt l p=l.length∧Dd l p= -1)∨ ∃k:Nat,vt l p=k∧Dd l p=k∧k<l.length:=by
 unfold Dd
 by_cases h:vt l p<l.length
 ·exact .inr ⟨_,rfl,if_pos h,h⟩
 ·have:vt l p≤l.length:=List.findIdx_le_length
  exact .inl ⟨aj,if_neg h⟩
theorem vB (g:gX) (e:eP) (hG:qD g) (h1:1≤e.kind) (h5:e.kind≤5) (ht:e.kind=3->1≤e.bA∧e.bA≤8) (hh:e.dep.af.length≤1000000):bL Tryz.prog 63 [.agg (bQ g),.agg (a7 e)] (.bt [.agg (bQ (cS g e)),ai (gK g e)]):=by
 obtain ⟨g1,g2,g3,g4,g5,g6⟩:=hG
 have m7:(ae aF g.al).length=g.al.length*4:=aG (e:=4) (fun _=>rfl) ..
 have s9:(ae bg g.aO).length=g.aO.length*7:=aG (e:=7) (fun _=>rfl) ..
 have m9:=ml g.al e.name aj
 have Cu:=pO g.aO e.dep.bZ aj
 have Iu:=pO g.aO e.bZ aj
 generalize ta:cS g e=G
 generalize AO:gK g e=E
 refine zO Tryz.func63 162<|zP 3 [{},yH [(2,{k:=g.al.length})],yH [(4,yV (ai (dJ g.al e.name)))]] [.aa [7,6,5,4,3,2,0,1] [4,3,2]] [yI m7,yI m9] (bf.oM (fun (x:Unit)=>(⟨[(7,ai (dJ g.al e.name)),(6,ai (↑g.al.length:Int)),(4,AV.addr 4 0),(3,AV.addr 3 0),(2,AV.addr 2 0),(0,AV.agg (bQ g)),(1,AV.agg (a7 e))],[(4,⟨1,false,true,[ai 0,cQ,ai 0,AV.nil,AV.nil]⟩),(3,⟨1,false,true,(a7 e)⟩),(2,⟨1,false,true,bQ G⟩)]⟩:AS)) (fun x=>(E=0)) bk ?_ ?_)
 ·by_cases k1:e.kind=1
  ·have ce:gK g e=if 0≤dJ g.al e.name then 10 else if 8≤g.al.length then 12 else 0:=if_pos k1
   by_cases c1:0≤dJ g.al e.name
   ·rw [if_pos c1] at ce
    have cg:cS g e=g:=if_pos aj
    rw [AO] at ce;rw [ta] at cg
    subst ce cg
    refine zq<|zB 0<|zP 1 [{}] [.aa [48,20,7,6,5,4,3,2,0,1] [4,3,2]] []<|dB 48 (e.kind == (1:Int)) fg<|zS<|zB 1<|zP 1 [{}] [.aa [50,48,20,7,6,5,4,3,2,0,1] [4,3,2]] []<|gU 50 (dJ G.al e.name≥0)<|zP 1 [{}] [.aa [5,50,48,20,7,6,4,3,2,0,1] [4,3,2]] [yL 5 5]<|zR<|a6<|aI<|a6<|aI (bR)
   by_cases c2:8≤g.al.length
   ·rw [if_neg c1,if_pos c2] at ce
    have cg:cS g e=g:=if_pos aj
    rw [AO] at ce;rw [ta] at cg
    subst ce cg
    refine zq<|zB 0<|zP 1 [{}] [.aa [48,20,7,6,5,4,3,2,0,1] [4,3,2]] []<|dB 48 (e.kind == (1:Int)) fg<|zS<|zB 1<|zP 1 [{}] [.aa [50,48,20,7,6,5,4,3,2,0,1] [4,3,2]] []<|dt 50 (dJ G.al e.name≥0)<|zP 1 [{}] [.aa [54,50,48,20,7,6,5,4,3,2,0,1] [4,3,2]] []<|gU 54 ((↑G.al.length:Int)≥8)<|zP 1 [{}] [.aa [5,54,50,48,20,7,6,4,3,2,0,1] [4,3,2]] [yL 5 5]<|zR<|a6<|aI<|a6<|aI (bR)
   rw [if_neg c1,if_neg c2] at ce
   have s1:ae aF g.al++aF ⟨e.name,e.kh,e.kr,0⟩=ae aF (g.al++ [⟨e.name,e.kh,e.kr,0⟩]):=fZ _ _
   by_cases c3:2*g.bA≤g.al.length+1
   ·have cg:cS g e=⟨g.aB,g.head,g.bA+1,g.al++ [⟨e.name,e.kh,e.kr,0⟩],g.aO⟩:=by unfold cS;rw [if_neg aj,if_pos k1,if_pos c3]
    rw [AO] at ce;rw [ta] at cg
    subst ce cg
    refine zq<|zB 0<|zP 1 [{}] [.aa [48,20,7,6,5,4,3,2,0,1] [4,3,2]] []<|dB 48 (e.kind == (1:Int)) fg<|zS<|zB 1<|zP 1 [{}] [.aa [50,48,20,7,6,5,4,3,2,0,1] [4,3,2]] []<|dt 50 (dJ g.al e.name≥0)<|zP 1 [{}] [.aa [54,50,48,20,7,6,5,4,3,2,0,1] [4,3,2]] []<|dt 54 ((↑g.al.length:Int)≥8)<|zK<|aL<|aq<|zS<|zP 1 [yH [(2,yV (ai ((2:Int)*g.bA))),(4,yV (ai ((↑g.al.length:Int)+1)))]] [.aa [63,54,50,48,20,7,6,5,4,3,2,0,1] [4,3,2]] [yN ((2:Int)*g.bA),yN ((↑g.al.length:Int)+1)]<|gU 63 ((2:Int)*g.bA≤(↑g.al.length:Int)+1)<|zX (yH [(2,yV (ai (g.bA+1)))]) [yN (g.bA+1),yL 3 5]<|aq<|y8 9 [2] [(2,{b:=false}),(9,yV (AV.arr (ae aF (g.al++ [Mem.mk e.name e.kh e.kr 0]))))] [yB (cI (ae aF g.al)) (dG (fun x=>dN rfl) _),yO ((0+(ae aF g.al).length)*40≤562949953421312),yR (AV.addr 3 3),yR (cF e.name),yR (AV.addr 3 4),yR (AV.agg [ai e.kh,aw e.kr]),yR (AV.agg [cF e.name,ai e.kh,aw e.kr,cQ]),yR (AV.sl 4 [cF e.name,ai e.kh,aw e.kr,cQ]),yI s1,yO (((ae aF g.al).length+4)*40≤562949953421312),yL 4 5]<|aL<|aq (⟨(),rfl,(zW [.gP 77,.aa [7,6,4,3,2,0,1] [4,3,2]])⟩)
   ·have cg:cS g e=⟨g.aB,g.head,g.bA,g.al++ [⟨e.name,e.kh,e.kr,0⟩],g.aO⟩:=by unfold cS;rw [if_neg aj,if_pos k1,if_neg c3]
    rw [AO] at ce;rw [ta] at cg
    subst ce cg
    refine zq<|zB 0<|zP 1 [{}] [.aa [48,20,7,6,5,4,3,2,0,1] [4,3,2]] []<|dB 48 (e.kind == (1:Int)) fg<|zS<|zB 1<|zP 1 [{}] [.aa [50,48,20,7,6,5,4,3,2,0,1] [4,3,2]] []<|dt 50 (dJ g.al e.name≥0)<|zP 1 [{}] [.aa [54,50,48,20,7,6,5,4,3,2,0,1] [4,3,2]] []<|dt 54 ((↑g.al.length:Int)≥8)<|zK<|aL<|aq<|zS<|bf.jX 1 [{hs:=[(2,{av:=some (ai ((2:Int)*g.bA))}),(4,{av:=some (ai ((↑g.al.length:Int)+1))})]}] [.aa [63,54,50,48,20,7,6,5,4,3,2,0,1] [4,3,2]] bk (s':=AS.mk [(63,ao (decide ((2:Int)*g.bA≤(↑g.al.length:Int)+1))),(54,ao (decide ((↑g.al.length:Int)≥8))),(50,ao (decide (dJ g.al e.name≥0))),(48,ao (e.kind == (1:Int))),(20,ai e.kind),(7,ai (dJ g.al e.name)),(6,ai (↑g.al.length:Int)),(5,ai 0),(4,AV.addr 4 0),(3,AV.addr 3 0),(2,AV.addr 2 0),(0,AV.agg (bQ g)),(1,AV.agg (a7 e))] [(4,Row.mk 1 false true [ai 0,cQ,ai 0,AV.nil,AV.nil]),(3,Row.mk 1 false true (a7 e)),(2,Row.mk 1 false true (List.map (aE 4) (List.map (aE 3) (List.map (aE 2) (bQ g)))))]) (C:=[ai (IntKind.i64.wrap ((2:Int)*g.bA))=ai ((2:Int)*g.bA),ai (IntKind.i64.wrap ((↑g.al.length:Int)+1))=ai ((↑g.al.length:Int)+1)]) bk ⟨(dK aj aj),(dK aj aj),trivial⟩<|dt 63 ((2:Int)*g.bA≤(↑g.al.length:Int)+1)<|a_<|y8 9 [2] [(2,{b:=false}),(9,yV (AV.arr (ae aF (g.al++ [Mem.mk e.name e.kh e.kr 0]))))] [yB (cI (ae aF g.al)) (dG (fun x=>dN rfl) _),yO ((0+(ae aF g.al).length)*40≤562949953421312),yR (AV.addr 3 3),yR (cF e.name),yR (AV.addr 3 4),yR (AV.agg [ai e.kh,aw e.kr]),yR (AV.agg [cF e.name,ai e.kh,aw e.kr,cQ]),yR (AV.sl 4 [cF e.name,ai e.kh,aw e.kr,cQ]),yI s1,yO (((ae aF g.al).length+4)*40≤562949953421312),yL 4 5]<|aL<|aq (⟨(),rfl,(zW [.gP 77,.aa [7,6,4,3,2,0,1] [4,3,2]])⟩)
  by_cases k2:e.kind=2
  ·have ce:gK g e=if dJ g.al e.name<0 then 11 else if (g.al.length:Int)-1<g.bA then 41 else 0:=by unfold gK;rw [if_neg k1,if_pos k2]
   rcases gH g.al e.name with hk|⟨k,hk,iH,PC⟩
   ·rw [if_pos aj] at ce
    have cg:cS g e=g:=if_pos aj
    rw [AO] at ce;rw [ta] at cg
    subst ce cg
    rw [hk] at m9
    refine zq<|zB 0<|zP 1 [{}] [.aa [48,20,7,6,5,4,3,2,0,1] [4,3,2]] []<|bn 48 (e.kind == (1:Int)) bE<|zq<|dB 79 (e.kind == (2:Int)) fg<|zS<|zP 1 [{}] [.aa [82,79,48,20,7,6,5,4,3,2,0,1] [4,3,2]] []<|gU 82 (dJ G.al e.name<0)<|zP 1 [{}] [.aa [5,82,79,48,20,7,6,4,3,2,0,1] [4,3,2]] [yL 5 5]<|dn<|a6<|aI (bR)
   rw [if_neg aj] at ce
   rw [hk] at m9
   have oz:AV.val (.int .i64 (dJ g.al e.name))=ai k:=by rw [hk]
   by_cases c2:(g.al.length:Int)-1<g.bA
   ·rw [if_pos c2] at ce
    have cg:cS g e=g:=if_pos aj
    rw [AO] at ce;rw [ta] at cg
    subst ce cg
    refine zq<|zB 0<|zP 1 [{}] [.aa [48,20,7,6,5,4,3,2,0,1] [4,3,2]] []<|bn 48 (e.kind == (1:Int)) bE<|zq<|dB 79 (e.kind == (2:Int)) fg<|zS<|zP 1 [{}] [.aa [82,79,48,20,7,6,5,4,3,2,0,1] [4,3,2]] []<|dt 82 (dJ G.al e.name<0)<|a_<|zS<|zP 1 [yH [(3,yV (ai ((↑G.al.length:Int)-1)))]] [.aa [88,82,79,48,20,7,6,5,4,3,2,0,1] [4,3,2]] [yN ((↑G.al.length:Int)-1)]<|gU 88 (G.bA>(↑G.al.length:Int)-1)<|zP 1 [{}] [.aa [5,88,82,79,48,20,7,6,4,3,2,0,1] [4,3,2]] [yL 5 5]<|dn<|a6<|aI (bR)
   rw [if_neg c2] at ce
   have cg:cS g e=⟨g.aB,g.head,g.bA,pn g.al k,g.aO⟩:=by unfold cS;rw [if_neg aj,if_neg k1,if_pos k2,hk];rfl
   rw [AO] at ce;rw [ta] at cg
   subst ce cg
   have s1:=Li g.al k
   have oO:cI (ae aF g.al):=dG (fun x=>dN rfl) _
   have Pu:cI ((ae aF g.al).take (k*4)):=fun x hx=>oO x (List.mem_of_mem_take hx)
   have Oc:cI ((ae aF g.al).drop ((k+1)*4)):=fun x hx=>oO x (List.mem_of_mem_drop hx)
   refine zq<|zB 0<|zP 1 [{}] [.aa [48,20,7,6,5,4,3,2,0,1] [4,3,2]] []<|bn 48 (e.kind == (1:Int)) bE<|zq<|dB 79 (e.kind == (2:Int)) fg<|zS<|zP 1 [{}] [.aa [82,79,48,20,7,6,5,4,3,2,0,1] [4,3,2]] []<|dt 82 (dJ g.al e.name<0)<|a_<|zS<|zP 1 [yH [(3,yV (ai ((↑g.al.length:Int)-1)))]] [.aa [88,82,79,48,20,7,6,5,4,3,2,0,1] [4,3,2]] [yN ((↑g.al.length:Int)-1)]<|dt 88 (g.bA>(↑g.al.length:Int)-1)<|a_<|y8 10 [4] [(2,yV (ai ↑k)),(3,{m:=k}),(4,{b:=false}),(8,yV (ai (↑(k+1):Int))),(9,{k:=k+1}),(10,{av:=some (AV.arr (ae aF (pn g.al k))),b:=false})] [yI oz,yR (↑k:Int),yO (k*4≤(ae aF g.al).length),yB (ai (IntKind.i64.wrap (dJ g.al e.name+1))=ai (↑(k+1):Int)) (congrArg (fun n=>AV.val (.int .i64 n)) (by rw [IntKind.wrap_i64];omega)),yR (↑(k+1):Int),yO ((k+1)*4≤(ae aF g.al).length),yI Pu,yB ((0+(List.take (k*4) (ae aF g.al)).length)*40≤562949953421312) (by simp only [List.length_take];omega),yR (AV.addr 2 3),yR (AV.sl 4 (ae aF g.al)),yR (ai (dJ g.al e.name)),yR (ai (↑(k+1):Int)),yB (ai (IntKind.i64.wrap (dJ g.al e.name+1))=ai (↑(k+1):Int)) (congrArg (fun n=>AV.val (.int .i64 n)) (by rw [IntKind.wrap_i64];omega)),yR (AV.sl 4 (List.drop ((k+1)*4) (ae aF g.al))),yR (↑(k+1):Int),yO ((k+1)*4≤(ae aF g.al).length),yI s1,yI Oc,yB (((List.take (k*4) (ae aF g.al)).length+(List.drop ((k+1)*4) (ae aF g.al)).length)*40≤562949953421312) (by simp only [List.length_take,List.length_drop];omega),yL 4 5]<|aL<|aq (⟨(),rfl,(zW [.gP 100,.aa [7,6,4,3,2,0,1] [4,3,2]])⟩)
  by_cases k3:e.kind=3
  ·obtain ⟨t1,t2⟩:=ht k3
   have ce:gK g e=if (g.al.length:Int)<e.bA∨2*e.bA≤g.al.length then 41 else 0:=by unfold gK;rw [if_neg k1,if_neg k2,if_pos k3]
   by_cases c1:(g.al.length:Int)<e.bA
   ·rw [if_pos (.inl c1)] at ce
    have cg:cS g e=g:=if_pos aj
    rw [AO] at ce;rw [ta] at cg
    subst ce cg
    refine zq<|zB 0<|zP 1 [{}] [.aa [48,20,7,6,5,4,3,2,0,1] [4,3,2]] []<|bn 48 (e.kind == (1:Int)) bE<|zq<|bn 79 (e.kind == (2:Int)) bE<|zP 1 [{}] [.aa [102,79,48,20,7,6,5,4,3,2,0,1] [4,3,2]] []<|dB 102 (e.kind == (3:Int)) fg<|zS<|zP 1 [{}] [.aa [114,102,79,48,20,7,6,5,4,3,2,0,1] [4,3,2]] (yM 6 (yT (e.bA>(↑G.al.length:Int))))<|zT 114<|zP 1 [{}] [.aa [5,114,102,79,48,20,7,6,4,3,2,0,1] [4,3,2]] [yL 5 5]<|dn<|a6<|aI (bR)
   by_cases c2:2*e.bA≤g.al.length
   ·rw [if_pos (.inr c2)] at ce
    have cg:cS g e=g:=if_pos aj
    rw [AO] at ce;rw [ta] at cg
    subst ce cg
    refine zq<|zB 0<|zP 1 [{}] [.aa [48,20,7,6,5,4,3,2,0,1] [4,3,2]] []<|bn 48 (e.kind == (1:Int)) bE<|zq<|bn 79 (e.kind == (2:Int)) bE<|zP 1 [{}] [.aa [102,79,48,20,7,6,5,4,3,2,0,1] [4,3,2]] []<|dB 102 (e.kind == (3:Int)) fg<|zS<|zP 1 [yH ([(7,{av:=some (ai ((2:Int)*e.bA)),g:=false}),(10,{b:=false})]++yg [5,6,8,9])] [.aa [114,102,79,48,20,7,6,5,4,3,2,0,1] [4,3,2]] (yM 3 (yF (e.bA>(↑G.al.length:Int)))++ [yN ((2:Int)*e.bA)]++yM 3 (yF (e.bA>(↑G.al.length:Int))))<|gU 114 ((2:Int)*e.bA≤(↑G.al.length:Int))<|zP 1 [{}] [.aa [5,114,102,79,48,20,7,6,4,3,2,0,1] [4,3,2]] [yL 5 5]<|dn<|a6<|aI (bR)
   rw [if_neg aj] at ce
   have cg:cS g e=⟨g.aB,g.head,e.bA,g.al,g.aO⟩:=by unfold cS;rw [if_neg aj,if_neg k1,if_neg k2,if_pos k3]
   rw [AO] at ce;rw [ta] at cg
   subst ce cg
   refine zq<|zB 0<|zP 1 [{}] [.aa [48,20,7,6,5,4,3,2,0,1] [4,3,2]] []<|bn 48 (e.kind == (1:Int)) bE<|zq<|bn 79 (e.kind == (2:Int)) bE<|zP 1 [{}] [.aa [102,79,48,20,7,6,5,4,3,2,0,1] [4,3,2]] []<|dB 102 (e.kind == (3:Int)) fg<|zS<|zP 1 [yH ([(7,{av:=some (ai ((2:Int)*e.bA)),g:=false}),(10,{b:=false})]++yg [5,6,8,9])] [.aa [114,102,79,48,20,7,6,5,4,3,2,0,1] [4,3,2]] (yM 3 (yF (e.bA>(↑g.al.length:Int)))++ [yN ((2:Int)*e.bA)]++yM 3 (yF (e.bA>(↑g.al.length:Int))))<|dt 114 ((2:Int)*e.bA≤(↑g.al.length:Int))<|a_<|zX {} [yL 3 5]<|aL<|aq (⟨(),rfl,(zW [.aa [7,6,4,3,2,0,1] [4,3,2]])⟩)
  by_cases k4:e.kind=4
  ·have ce:gK g e=if 8≤g.aO.length then 12 else if vt g.aO e.dep.bZ<g.aO.length then 10 else ff (sH g e.dep.af) e.dep.af.length:=by unfold gK;rw [if_neg k1,if_neg k2,if_neg k3,if_pos k4]
   by_cases c1:8≤g.aO.length
   ·rw [if_pos c1] at ce
    have cg:cS g e=g:=if_pos aj
    rw [AO] at ce;rw [ta] at cg
    subst ce cg
    refine zq<|zB 0<|zP 1 [{}] [.aa [48,20,7,6,5,4,3,2,0,1] [4,3,2]] []<|bn 48 (e.kind == (1:Int)) bE<|zq<|bn 79 (e.kind == (2:Int)) bE<|zP 1 [{}] [.aa [102,79,48,20,7,6,5,4,3,2,0,1] [4,3,2]] []<|bn 102 (e.kind == (3:Int)) bE<|zq<|dB 119 (e.kind == (4:Int)) fg<|zS<|zP 1 [yH [(2,{k:=G.aO.length})]] [.aa [124,119,102,79,48,20,7,6,5,4,3,2,0,1] [4,3,2]] [yI s9]<|gU 124 ((↑G.aO.length:Int)≥8)<|zP 1 [{}] [.aa [5,124,119,102,79,48,20,7,6,4,3,2,0,1] [4,3,2]] [yL 5 5]<|dn<|a6<|aI (bR)
   rw [if_neg c1] at ce
   rcases ob g.aO e.dep.bZ with ⟨hf,hk⟩|⟨k,hf,hk,iH⟩
   case inr =>
    rw [if_pos aj] at ce
    have cg:cS g e=g:=if_pos aj
    rw [AO] at ce;rw [ta] at cg
    subst ce cg
    rw [hk] at Cu
    refine zq<|zB 0<|zP 1 [{}] [.aa [48,20,7,6,5,4,3,2,0,1] [4,3,2]] []<|bn 48 (e.kind == (1:Int)) bE<|zq<|bn 79 (e.kind == (2:Int)) bE<|zP 1 [{}] [.aa [102,79,48,20,7,6,5,4,3,2,0,1] [4,3,2]] []<|bn 102 (e.kind == (3:Int)) bE<|zq<|dB 119 (e.kind == (4:Int)) fg<|zS<|zP 1 [yH [(2,{k:=G.aO.length})]] [.aa [124,119,102,79,48,20,7,6,5,4,3,2,0,1] [4,3,2]] [yI s9]<|dt 124 ((↑G.aO.length:Int)≥8)<|a_<|zS<|zP 1 [yH [(5,yV (ai ↑k))]] [.aa [132,124,119,102,79,48,20,7,6,5,4,3,2,0,1] [4,3,2]] [yI Cu]<|gU 132 ((↑k:Int)≥0)<|zP 1 [{}] [.aa [5,132,124,119,102,79,48,20,7,6,4,3,2,0,1] [4,3,2]] [yL 5 5]<|dn<|a6<|aI (bR)
   rw [if_neg aj] at ce
   rw [hk] at Cu
   have PF:(ae ay e.dep.af).length=e.dep.af.length:=by rw [aG (e:=1) (fun _=>rfl)];omega
   refine zq<|zB 0<|zP 1 [{}] [.aa [48,20,7,6,5,4,3,2,0,1] [4,3,2]] []<|bn 48 (e.kind == (1:Int)) bE<|zq<|bn 79 (e.kind == (2:Int)) bE<|zP 1 [{}] [.aa [102,79,48,20,7,6,5,4,3,2,0,1] [4,3,2]] []<|bn 102 (e.kind == (3:Int)) bE<|zq<|dB 119 (e.kind == (4:Int)) fg<|zS<|zP 1 [yH [(2,{k:=g.aO.length})]] [.aa [124,119,102,79,48,20,7,6,5,4,3,2,0,1] [4,3,2]] [yI s9]<|dt 124 ((↑g.aO.length:Int)≥8)<|a_<|zS<|zP 1 [yH [(5,yV (ai (-1:Int)))]] [.aa [132,124,119,102,79,48,20,7,6,5,4,3,2,0,1] [4,3,2]] [yI Cu]<|dt 132 ((-1:Int)≥0)<|a_<|zS<|zq<|zB 2 (zL (fun (i:Nat)=>(⟨[(132,ao (decide ((-1:Int)≥0))),(124,ao (decide ((↑g.aO.length:Int)≥8))),(119,ao (e.kind == (4:Int))),(102,ao (e.kind == (3:Int))),(79,ao (e.kind == (2:Int))),(48,ao (e.kind == (1:Int))),(20,ai e.kind),(7,ai (dJ g.al e.name)),(6,ai (↑g.al.length:Int)),(4,AV.addr 4 0),(3,AV.addr 3 0),(2,AV.addr 2 0),(0,AV.agg (bQ g)),(1,AV.agg (a7 e)),(8,ai i)],[(4,⟨1,false,true,[ai 0,cQ,ai 0,AV.nil,AV.nil]⟩),(3,⟨1,false,true,(a7 e)⟩),(2,⟨1,false,true,List.map (aE 4) (List.map (aE 3) (List.map (aE 2) (bQ g)))⟩)]⟩:AS)) (fun i=>(i≤e.dep.af.length∧ff (sH g e.dep.af) i=0)) (fun i=>(e.dep.af.length-i)) (0) ?_ (zW [.aa [132,124,119,102,79,48,20,7,6,4,3,2,0,1,8] [4,3,2]]) ?_)
   ·exact ⟨aj,rfl⟩
   rintro i ⟨hi,h0⟩
   refine zS<|zP 1 [yH [(4,{k:=(ae ay e.dep.af).length})]] [.aa [139,132,124,119,102,79,48,20,7,6,4,3,2,0,1,8] [4,3,2]] [yR ((ae ay e.dep.af).length)] (zD 139 ((↑i:Int)<(↑(ae ay e.dep.af).length:Int)) (fun q=>?_) (fun q=>?_))
   ·have dM:i<e.dep.af.length:=aj
    have gN:=js dM
    have Em:=ml g.al (e.dep.af.getD i default) aj
    rcases gH g.al (e.dep.af.getD i default) with hm|⟨k,hm,RG,-⟩
    ·have hs:sH g e.dep.af i=11:=if_pos aj
     have Qr:ff (sH g e.dep.af) (i+1)=11:=by show (if _ then _ else _)=_;rw [if_neg aj,hs]
     rw [lg aj Qr _ dM] at ce
     have cg:cS g e=g:=if_pos aj
     rw [AO] at ce;rw [ta] at cg
     subst ce cg
     rw [hm] at Em
     refine a_<|zS<|zB 3<|zP 1 [{hs:=[(6,{k:=i}),(7,yV (cF (e.dep.af.getD i default))),(8,yV (ai (-1:Int)))],T:=8}] [.aa [151,139,132,124,119,102,79,48,20,7,6,4,3,2,0,1,8] [4,3,2]] [yR (↑i:Int),yO (i<(ae ay e.dep.af).length),yI gN,yI Em]<|gU 151 ((-1:Int)<0)<|zP 1 [{}] [.aa [5,151,139,132,124,119,102,79,48,20,7,6,4,3,2,0,1,8] [4,3,2]] [yL 5 5]<|zR<|a6<|aI<|de<|a6<|aI<|a6<|aI (bR)
    ·have hs:sH g e.dep.af i=0:=if_neg aj
     rw [hm] at Em
     refine a_<|zS<|zB 3<|zP 1 [{hs:=[(6,{k:=i}),(7,yV (cF (e.dep.af.getD i default))),(8,yV (ai ↑k))],T:=8}] [.aa [151,139,132,124,119,102,79,48,20,7,6,4,3,2,0,1,8] [4,3,2]] [yR (↑i:Int),yO (i<(ae ay e.dep.af).length),yI gN,yI Em]<|dt 151 ((↑k:Int)<0)<|zK<|aL<|aq<|zX (yH [(1,yV (ai ((↑i:Int)+1)))]) [yN ((↑i:Int)+1)] (aK (i+1) ⟨aj,by show (if _ then _ else _)=_;rw [if_neg aj,hs]⟩ aj (zW [.aa [132,124,119,102,79,48,20,7,6,4,3,2,0,1,8] [4,3,2]]))
   ·have ei:i=e.dep.af.length:=aj
    subst ei
    rw [h0] at ce
    have cg:cS g e=⟨g.aB,g.head,g.bA,g.al,g.aO++ [e.dep]⟩:=by unfold cS;rw [if_neg aj,if_neg k1,if_neg k2,if_neg k3,if_pos k4]
    rw [AO] at ce;rw [ta] at cg
    subst ce cg
    have s1:ae bg g.aO++bg e.dep=ae bg (g.aO++ [e.dep]):=fZ _ _
    refine zE 2<|ba<|aS<|br<|aq<|y8 6 [2] [(2,{b:=false}),(6,yV (AV.arr (ae bg (g.aO++ [e.dep]))))] [yB (cI (ae bg g.aO)) (dG (fun x=>dN rfl) _),yO ((0+(ae bg g.aO).length)*104≤985162418487296),yR (AV.addr 3 7),yR (AV.agg (bg e.dep)),yR (AV.sl 7 (bg e.dep)),yI s1,yO (((ae bg g.aO).length+7)*104≤985162418487296),yL 5 5]<|aL<|aq (⟨(),rfl,(zW [.gP 159,.aa [7,6,4,3,2,0,1] [4,3,2]])⟩)
  have k5:e.kind=5:=aj
  have ce:gK g e=if vt g.aO e.bZ=g.aO.length then 11 else if (g.aO.getD (vt g.aO e.bZ) default).target≠0 then 18 else 0:=by unfold gK;rw [if_neg k1,if_neg k2,if_neg k3,if_neg k4]
  rcases ob g.aO e.bZ with ⟨hf,hk⟩|⟨k,hf,hk,iH⟩
  ·rw [if_pos hf] at ce
   have cg:cS g e=g:=if_pos aj
   rw [AO] at ce;rw [ta] at cg
   subst ce cg
   rw [hk] at Iu
   refine zq<|zB 0<|zP 1 [{}] [.aa [48,20,7,6,5,4,3,2,0,1] [4,3,2]] []<|bn 48 (e.kind == (1:Int)) bE<|zq<|bn 79 (e.kind == (2:Int)) bE<|zP 1 [{}] [.aa [102,79,48,20,7,6,5,4,3,2,0,1] [4,3,2]] []<|bn 102 (e.kind == (3:Int)) bE<|zq<|bn 119 (e.kind == (4:Int)) bE<|zP 1 [yH [(4,yV (ai (-1:Int)))]] [.aa [9,119,102,79,48,20,7,6,5,4,3,2,0,1] [4,3,2]] [yI Iu]<|zS<|zq<|gU 27 ((-1:Int)<0)<|zP 1 [{}] [.aa [5,27,9,119,102,79,48,20,7,6,4,3,2,0,1] [4,3,2]] [yL 5 5]<|dn<|a6<|aI (bR)
  rw [if_neg aj,hf] at ce
  rw [hk] at Iu
  have gN:=yr iH
  by_cases c1:(g.aO.getD k default).target=0
  case neg =>
   rw [if_pos c1] at ce
   have cg:cS g e=g:=if_pos aj
   rw [AO] at ce;rw [ta] at cg
   subst ce cg
   refine zq<|zB 0<|zP 1 [{}] [.aa [48,20,7,6,5,4,3,2,0,1] [4,3,2]] []<|bn 48 (e.kind == (1:Int)) bE<|zq<|bn 79 (e.kind == (2:Int)) bE<|zP 1 [{}] [.aa [102,79,48,20,7,6,5,4,3,2,0,1] [4,3,2]] []<|bn 102 (e.kind == (3:Int)) bE<|zq<|bn 119 (e.kind == (4:Int)) bE<|zP 1 [yH [(4,yV (ai ↑k))]] [.aa [9,119,102,79,48,20,7,6,5,4,3,2,0,1] [4,3,2]] [yI Iu]<|zS<|zq<|dt 27 ((↑k:Int)<0)<|a_<|zS<|zP 1 [yH [(3,{k:=k}),(5,yV (aw ((G.aO.getD k default).target))),(6,yV (ao ((G.aO.getD k default).target != 0)))]] [.aa [35,27,9,119,102,79,48,20,7,6,5,4,3,2,0,1] [4,3,2]] [yR (↑k:Int),yO (k*7<(ae bg G.aO).length),yB ((ae bg G.aO)[k*7+6]?=some (aw ((G.aO.getD k default).target))) (bc (f:=bg) (e:=7) (k:=k) (j:=6) (fun _=>rfl) aj rfl),yI (cN ((G.aO.getD k default).target) 0)]<|dB 35 ((G.aO.getD k default).target != 0) (by simp_all)<|zP 1 [{}] [.aa [5,35,27,9,119,102,79,48,20,7,6,4,3,2,0,1] [4,3,2]] [yL 5 5]<|dn<|a6<|aI (bR)
  rw [if_neg (fun q=>q c1)] at ce
  have cg:cS g e=⟨g.aB,g.head,g.bA,g.al,qP g.aO k e.target⟩:=by unfold cS;rw [if_neg aj,if_neg k1,if_neg k2,if_neg k3,if_neg k4,hf]
  rw [AO] at ce;rw [ta] at cg
  subst ce cg
  have s1:=Be iH e.target
  refine zq<|zB 0<|zP 1 [{}] [.aa [48,20,7,6,5,4,3,2,0,1] [4,3,2]] []<|bn 48 (e.kind == (1:Int)) bE<|zq<|bn 79 (e.kind == (2:Int)) bE<|zP 1 [{}] [.aa [102,79,48,20,7,6,5,4,3,2,0,1] [4,3,2]] []<|bn 102 (e.kind == (3:Int)) bE<|zq<|bn 119 (e.kind == (4:Int)) bE<|zP 1 [yH [(4,yV (ai ↑k))]] [.aa [9,119,102,79,48,20,7,6,5,4,3,2,0,1] [4,3,2]] [yI Iu]<|zS<|zq<|dt 27 ((↑k:Int)<0)<|a_<|zS<|zP 1 [yH [(3,{k:=k}),(5,yV (aw ((g.aO.getD k default).target))),(6,yV (ao false))]] [.aa [35,27,9,119,102,79,48,20,7,6,5,4,3,2,0,1] [4,3,2]] [yR (↑k:Int),yO (k*7<(ae bg g.aO).length),yB ((ae bg g.aO)[k*7+6]?=some (aw ((g.aO.getD k default).target))) (bc (f:=bg) (e:=7) (k:=k) (j:=6) (fun _=>rfl) aj rfl),yB (ao (wv (g.aO.getD k default).target != (0:Int))=ao false) (by rw [c1];rfl)]<|zF 35<|a_<|zP 2 [yH [(2,{b:=false})],yH [(4,{k:=k}),(6,yV (AV.arr (ae bg (qP g.aO k e.target))))]] [.aa [41,10,35,27,9,119,102,79,48,20,7,6,5,4,3,2,0,1] [39,4,3,2]] [yB (cI (ae bg g.aO)) (dG (fun x=>dN rfl) _),yO ((0+(ae bg g.aO).length)*104≤985162418487296),yR (↑k:Int),yO (k*7<(ae bg g.aO).length),yI s1,yO (k*7+6+1≤(ae bg g.aO).length)]<|zX {} [yL 5 5]<|aL<|aq (⟨(),rfl,(zW [.gP 39,.aa [7,6,4,3,2,0,1] [4,3,2]])⟩)
 ·intro x hx
  subst hx
  refine zP 1 [{}] [.aa [5,7,6,4,3,2,0,1] [4,3,2]] [yL 5 5]<|zR (bR)
end Go.Proofs.YtjgbhhnghedgdaaGreatDoor
