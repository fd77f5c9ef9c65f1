import Derived.Test.YtjgbhhnghedgdaaGreatDoorZpTk7r
set_option linter.all false
namespace Go.Proofs.YtjgbhhnghedgdaaGreatDoor
open Go.RowKit
set_option maxRecDepth 100000
set_option maxHeartbeats 4000000
structure nI (g:gB):Prop where
 Vr:0≤g.aA
 QE:g.aA≤2147483647
 m8:g.al.length≤8
 t0:0≤g.bt
 t1:g.bt≤8
 d8:g.aJ.length≤8
theorem yn {l:List mU} {i:Nat} (h:i<l.length):List.take 7 (List.drop (i*7) (af bg l))=bg (l.getD i default):=km (e:=7) (fun _=>rfl) h
theorem Bc {l:List mU} {k:Nat} (hk:k<l.length) (t:UInt64):(af bg l).set (k*7+6) (aw t)=af bg (tG l k t):=by
 unfold tG
 induction l generalizing k with
 | nil=>cases hk
 | cons m l ih =>
  cases k with
  | zero=>rfl
  | succ k =>
   have:=ih (k:=k) (by simpa using hk)
   rw [show (k+1)*7+6=k*7+6+7 by omega]
   show bg m++(af bg l).set (k*7+6) (aw t)=bg m++af bg (l.set k {l.getD k default with target:=t})
   rw [this]
theorem K_ (l:List Mem) (k:Nat):(af aI l).take (k*4)++(af aI l).drop ((k+1)*4)=af aI (pb l k):=by
 rw [nX (e:=4) (fun _=>rfl),nY (e:=4) (fun _=>rfl),fB];rfl
theorem nS (l:List mU) (p:UInt64):(vi l p=l.length∧CZ l p= -1)∨ ∃k:Nat,vi l p=k∧CZ l p=k∧k<l.length:=by
 unfold CZ
 by_cases h:vi l p<l.length
 ·exact .inr ⟨_,rfl,if_pos h,h⟩
 ·have:vi l p≤l.length:=List.findIdx_le_length
  exact .inl ⟨aj,if_neg h⟩
theorem vr (g:gB) (e:fo) (hG:nI g) (h1:1≤e.kind) (h5:e.kind≤5) (ht:e.kind=3->1≤e.bt∧e.bt≤8) (hh:e.dep.ae.length≤1000000):bK Tryz.prog 63 [.agg (bV g),.agg (bX e)] (.br [.agg (bV (cP g e)),ai (gK g e)]):=by
 obtain ⟨g1,g2,g3,g4,g5,g6⟩:=hG
 have l0:(af aI g.al).length=g.al.length*4:=aE (e:=4) (fun _=>rfl) ..
 have qt:(af bg g.aJ).length=g.aJ.length*7:=aE (e:=7) (fun _=>rfl) ..
 have mS:=l_ g.al e.name aj
 have Cm:=pH g.aJ e.dep.bF aj
 have Ic:=pH g.aJ e.bF aj
 generalize sS:cP g e=G
 generalize AK:gK g e=E
 refine zO Tryz.func63 162<|zP 3 [{},yH [(2,{k:=g.al.length})],yH [(4,yV (ai (dC g.al e.name)))]] [.aa [7,6,5,4,3,2,0,1] [4,3,2]] [yI l0,yI mS] (bf.k7 (fun (x:Unit)=>(⟨[(7,ai (dC g.al e.name)),(6,ai (↑g.al.length:Int)),(4,AV.addr 4 0),(3,AV.addr 3 0),(2,AV.addr 2 0),(0,AV.agg (bV g)),(1,AV.agg (bX e))],[(4,⟨1,false,true,[ai 0,dW,ai 0,AV.nil,AV.nil]⟩),(3,⟨1,false,true,(bX e)⟩),(2,⟨1,false,true,bV G⟩)]⟩:AS)) (fun x=>(E=0)) bD ?_ ?_)
 ·by_cases k1:e.kind=1
  ·have ce:gK g e=if 0≤dC g.al e.name then 10 else if 8≤g.al.length then 12 else 0:=if_pos k1
   by_cases c1:0≤dC g.al e.name
   ·rw [if_pos c1] at ce
    have cg:cP g e=g:=if_pos aj
    rw [AK] at ce;rw [sS] at cg
    subst ce cg
    refine zq<|zB 0<|zP 1 [{}] [.aa [48,20,7,6,5,4,3,2,0,1] [4,3,2]] []<|dr 48 (e.kind == (1:Int)) fi<|zS<|zB 1<|zP 1 [{}] [.aa [50,48,20,7,6,5,4,3,2,0,1] [4,3,2]] []<|ib 50 (dC G.al e.name≥0)<|zP 1 [{}] [.aa [5,50,48,20,7,6,4,3,2,0,1] [4,3,2]] [yL 5 5]<|zR<|bc<|aK<|bc<|aK (bU)
   by_cases c2:8≤g.al.length
   ·rw [if_neg c1,if_pos c2] at ce
    have cg:cP g e=g:=if_pos aj
    rw [AK] at ce;rw [sS] at cg
    subst ce cg
    refine zq<|zB 0<|zP 1 [{}] [.aa [48,20,7,6,5,4,3,2,0,1] [4,3,2]] []<|dr 48 (e.kind == (1:Int)) fi<|zS<|zB 1<|zP 1 [{}] [.aa [50,48,20,7,6,5,4,3,2,0,1] [4,3,2]] []<|dp 50 (dC G.al e.name≥0)<|zP 1 [{}] [.aa [54,50,48,20,7,6,5,4,3,2,0,1] [4,3,2]] []<|ib 54 ((↑G.al.length:Int)≥8)<|zP 1 [{}] [.aa [5,54,50,48,20,7,6,4,3,2,0,1] [4,3,2]] [yL 5 5]<|zR<|bc<|aK<|bc<|aK (bU)
   rw [if_neg c1,if_neg c2] at ce
   have s1:af aI g.al++aI ⟨e.name,e.kh,e.kr,0⟩=af aI (g.al++ [⟨e.name,e.kh,e.kr,0⟩]):=gJ _ _
   by_cases c3:2*g.bt≤g.al.length+1
   ·have cg:cP g e=⟨g.aA,g.head,g.bt+1,g.al++ [⟨e.name,e.kh,e.kr,0⟩],g.aJ⟩:=by unfold cP;rw [if_neg aj,if_pos k1,if_pos c3]
    rw [AK] at ce;rw [sS] at cg
    subst ce cg
    refine zq<|zB 0<|zP 1 [{}] [.aa [48,20,7,6,5,4,3,2,0,1] [4,3,2]] []<|dr 48 (e.kind == (1:Int)) fi<|zS<|zB 1<|zP 1 [{}] [.aa [50,48,20,7,6,5,4,3,2,0,1] [4,3,2]] []<|dp 50 (dC g.al e.name≥0)<|zP 1 [{}] [.aa [54,50,48,20,7,6,5,4,3,2,0,1] [4,3,2]] []<|dp 54 ((↑g.al.length:Int)≥8)<|zK<|aL<|ak<|zS<|zP 1 [yH [(2,yV (ai ((2:Int)*g.bt))),(4,yV (ai ((↑g.al.length:Int)+1)))]] [.aa [63,54,50,48,20,7,6,5,4,3,2,0,1] [4,3,2]] [yN ((2:Int)*g.bt),yN ((↑g.al.length:Int)+1)]<|ib 63 ((2:Int)*g.bt≤(↑g.al.length:Int)+1)<|zX (yH [(2,yV (ai (g.bt+1)))]) [yN (g.bt+1),yL 3 5]<|ak<|Bu 9 [2] [(2,{b:=false}),(9,yV (AV.arr (af aI (g.al++ [Mem.mk e.name e.kh e.kr 0]))))] [yB (cH (af aI g.al)) (dG (fun x=>dP rfl) _),yO ((0+(af aI g.al).length)*40≤562949953421312),yR (AV.addr 3 3),yR (cZ e.name),yR (AV.addr 3 4),yR (AV.agg [ai e.kh,aw e.kr]),yR (AV.agg [cZ e.name,ai e.kh,aw e.kr,dW]),yR (AV.sl 4 [cZ e.name,ai e.kh,aw e.kr,dW]),yI s1,yO (((af aI g.al).length+4)*40≤562949953421312),yL 4 5]<|aL<|ak (⟨(),rfl,(zW [.gp 77,.aa [7,6,4,3,2,0,1] [4,3,2]])⟩)
   ·have cg:cP g e=⟨g.aA,g.head,g.bt,g.al++ [⟨e.name,e.kh,e.kr,0⟩],g.aJ⟩:=by unfold cP;rw [if_neg aj,if_pos k1,if_neg c3]
    rw [AK] at ce;rw [sS] at cg
    subst ce cg
    refine zq<|zB 0<|zP 1 [{}] [.aa [48,20,7,6,5,4,3,2,0,1] [4,3,2]] []<|dr 48 (e.kind == (1:Int)) fi<|zS<|zB 1<|zP 1 [{}] [.aa [50,48,20,7,6,5,4,3,2,0,1] [4,3,2]] []<|dp 50 (dC g.al e.name≥0)<|zP 1 [{}] [.aa [54,50,48,20,7,6,5,4,3,2,0,1] [4,3,2]] []<|dp 54 ((↑g.al.length:Int)≥8)<|zK<|aL<|ak<|zS<|zP 1 [yH [(2,yV (ai ((2:Int)*g.bt))),(4,yV (ai ((↑g.al.length:Int)+1)))]] [.aa [63,54,50,48,20,7,6,5,4,3,2,0,1] [4,3,2]] [yN ((2:Int)*g.bt),yN ((↑g.al.length:Int)+1)]<|dp 63 ((2:Int)*g.bt≤(↑g.al.length:Int)+1)<|a7<|Bu 9 [2] [(2,{b:=false}),(9,yV (AV.arr (af aI (g.al++ [Mem.mk e.name e.kh e.kr 0]))))] [yB (cH (af aI g.al)) (dG (fun x=>dP rfl) _),yO ((0+(af aI g.al).length)*40≤562949953421312),yR (AV.addr 3 3),yR (cZ e.name),yR (AV.addr 3 4),yR (AV.agg [ai e.kh,aw e.kr]),yR (AV.agg [cZ e.name,ai e.kh,aw e.kr,dW]),yR (AV.sl 4 [cZ e.name,ai e.kh,aw e.kr,dW]),yI s1,yO (((af aI g.al).length+4)*40≤562949953421312),yL 4 5]<|aL<|ak (⟨(),rfl,(zW [.gp 77,.aa [7,6,4,3,2,0,1] [4,3,2]])⟩)
  by_cases k2:e.kind=2
  ·have ce:gK g e=if dC g.al e.name<0 then 11 else if (g.al.length:Int)-1<g.bt then 41 else 0:=by unfold gK;rw [if_neg k1,if_pos k2]
   rcases gG g.al e.name with hk|⟨k,hk,iF,Pr⟩
   ·rw [if_pos aj] at ce
    have cg:cP g e=g:=if_pos aj
    rw [AK] at ce;rw [sS] at cg
    subst ce cg
    rw [hk] at mS
    refine zq<|zB 0<|zP 1 [{}] [.aa [48,20,7,6,5,4,3,2,0,1] [4,3,2]] []<|bj 48 (e.kind == (1:Int)) bE<|zq<|dr 79 (e.kind == (2:Int)) fi<|zS<|zP 1 [{}] [.aa [82,79,48,20,7,6,5,4,3,2,0,1] [4,3,2]] []<|ib 82 (dC G.al e.name<0)<|zP 1 [{}] [.aa [5,82,79,48,20,7,6,4,3,2,0,1] [4,3,2]] [yL 5 5]<|dt<|bc<|aK (bU)
   rw [if_neg aj] at ce
   rw [hk] at mS
   have oq:AV.val (.int .i64 (dC g.al e.name))=ai k:=by rw [hk]
   by_cases c2:(g.al.length:Int)-1<g.bt
   ·rw [if_pos c2] at ce
    have cg:cP g e=g:=if_pos aj
    rw [AK] at ce;rw [sS] at cg
    subst ce cg
    refine zq<|zB 0<|zP 1 [{}] [.aa [48,20,7,6,5,4,3,2,0,1] [4,3,2]] []<|bj 48 (e.kind == (1:Int)) bE<|zq<|dr 79 (e.kind == (2:Int)) fi<|zS<|zP 1 [{}] [.aa [82,79,48,20,7,6,5,4,3,2,0,1] [4,3,2]] []<|dp 82 (dC G.al e.name<0)<|a7<|zS<|zP 1 [yH [(3,yV (ai ((↑G.al.length:Int)-1)))]] [.aa [88,82,79,48,20,7,6,5,4,3,2,0,1] [4,3,2]] [yN ((↑G.al.length:Int)-1)]<|ib 88 (G.bt>(↑G.al.length:Int)-1)<|zP 1 [{}] [.aa [5,88,82,79,48,20,7,6,4,3,2,0,1] [4,3,2]] [yL 5 5]<|dt<|bc<|aK (bU)
   rw [if_neg c2] at ce
   have cg:cP g e=⟨g.aA,g.head,g.bt,pb g.al k,g.aJ⟩:=by unfold cP;rw [if_neg aj,if_neg k1,if_pos k2,hk];rfl
   rw [AK] at ce;rw [sS] at cg
   subst ce cg
   have s1:=K_ g.al k
   have oG:cH (af aI g.al):=dG (fun x=>dP rfl) _
   have Pj:cH ((af aI g.al).take (k*4)):=fun x hx=>oG x (List.mem_of_mem_take hx)
   have NR:cH ((af aI g.al).drop ((k+1)*4)):=fun x hx=>oG x (List.mem_of_mem_drop hx)
   refine zq<|zB 0<|zP 1 [{}] [.aa [48,20,7,6,5,4,3,2,0,1] [4,3,2]] []<|bj 48 (e.kind == (1:Int)) bE<|zq<|dr 79 (e.kind == (2:Int)) fi<|zS<|zP 1 [{}] [.aa [82,79,48,20,7,6,5,4,3,2,0,1] [4,3,2]] []<|dp 82 (dC g.al e.name<0)<|a7<|zS<|zP 1 [yH [(3,yV (ai ((↑g.al.length:Int)-1)))]] [.aa [88,82,79,48,20,7,6,5,4,3,2,0,1] [4,3,2]] [yN ((↑g.al.length:Int)-1)]<|dp 88 (g.bt>(↑g.al.length:Int)-1)<|a7<|Bu 10 [4] [(2,yV (ai ↑k)),(3,{m:=k}),(4,{b:=false}),(8,yV (ai (↑(k+1):Int))),(9,{k:=k+1}),(10,{av:=some (AV.arr (af aI (pb g.al k))),b:=false})] [yI oq,yR (↑k:Int),yO (k*4≤(af aI g.al).length),yB (ai (IntKind.i64.wrap (dC g.al e.name+1))=ai (↑(k+1):Int)) (congrArg (fun n=>AV.val (.int .i64 n)) (by rw [IntKind.wrap_i64];omega)),yR (↑(k+1):Int),yO ((k+1)*4≤(af aI g.al).length),yI Pj,yB ((0+(List.take (k*4) (af aI g.al)).length)*40≤562949953421312) (by simp only [List.length_take];omega),yR (AV.addr 2 3),yR (AV.sl 4 (af aI g.al)),yR (ai (dC g.al e.name)),yR (ai (↑(k+1):Int)),yB (ai (IntKind.i64.wrap (dC g.al e.name+1))=ai (↑(k+1):Int)) (congrArg (fun n=>AV.val (.int .i64 n)) (by rw [IntKind.wrap_i64];omega)),yR (AV.sl 4 (List.drop ((k+1)*4) (af aI g.al))),yR (↑(k+1):Int),yO ((k+1)*4≤(af aI g.al).length),yI s1,yI NR,yB (((List.take (k*4) (af aI g.al)).length+(List.drop ((k+1)*4) (af aI g.al)).length)*40≤562949953421312) (by simp only [List.length_take,List.length_drop];omega),yL 4 5]<|aL<|ak (⟨(),rfl,(zW [.gp 100,.aa [7,6,4,3,2,0,1] [4,3,2]])⟩)
  by_cases k3:e.kind=3
  ·obtain ⟨t1,t2⟩:=ht k3
   have ce:gK g e=if (g.al.length:Int)<e.bt∨2*e.bt≤g.al.length then 41 else 0:=by unfold gK;rw [if_neg k1,if_neg k2,if_pos k3]
   by_cases c1:(g.al.length:Int)<e.bt
   ·rw [if_pos (.inl c1)] at ce
    have cg:cP g e=g:=if_pos aj
    rw [AK] at ce;rw [sS] at cg
    subst ce cg
    refine zq<|zB 0<|zP 1 [{}] [.aa [48,20,7,6,5,4,3,2,0,1] [4,3,2]] []<|bj 48 (e.kind == (1:Int)) bE<|zq<|bj 79 (e.kind == (2:Int)) bE<|zP 1 [{}] [.aa [102,79,48,20,7,6,5,4,3,2,0,1] [4,3,2]] []<|dr 102 (e.kind == (3:Int)) fi<|zS<|zP 1 [{}] [.aa [114,102,79,48,20,7,6,5,4,3,2,0,1] [4,3,2]] (yM 6 (yT (e.bt>(↑G.al.length:Int))))<|zT 114<|zP 1 [{}] [.aa [5,114,102,79,48,20,7,6,4,3,2,0,1] [4,3,2]] [yL 5 5]<|dt<|bc<|aK (bU)
   by_cases c2:2*e.bt≤g.al.length
   ·rw [if_pos (.inr c2)] at ce
    have cg:cP g e=g:=if_pos aj
    rw [AK] at ce;rw [sS] at cg
    subst ce cg
    refine zq<|zB 0<|zP 1 [{}] [.aa [48,20,7,6,5,4,3,2,0,1] [4,3,2]] []<|bj 48 (e.kind == (1:Int)) bE<|zq<|bj 79 (e.kind == (2:Int)) bE<|zP 1 [{}] [.aa [102,79,48,20,7,6,5,4,3,2,0,1] [4,3,2]] []<|dr 102 (e.kind == (3:Int)) fi<|zS<|zP 1 [yH ([(7,{av:=some (ai ((2:Int)*e.bt)),g:=false}),(10,{b:=false})]++yg [5,6,8,9])] [.aa [114,102,79,48,20,7,6,5,4,3,2,0,1] [4,3,2]] (yM 3 (yF (e.bt>(↑G.al.length:Int)))++ [yN ((2:Int)*e.bt)]++yM 3 (yF (e.bt>(↑G.al.length:Int))))<|ib 114 ((2:Int)*e.bt≤(↑G.al.length:Int))<|zP 1 [{}] [.aa [5,114,102,79,48,20,7,6,4,3,2,0,1] [4,3,2]] [yL 5 5]<|dt<|bc<|aK (bU)
   rw [if_neg aj] at ce
   have cg:cP g e=⟨g.aA,g.head,e.bt,g.al,g.aJ⟩:=by unfold cP;rw [if_neg aj,if_neg k1,if_neg k2,if_pos k3]
   rw [AK] at ce;rw [sS] at cg
   subst ce cg
   refine zq<|zB 0<|zP 1 [{}] [.aa [48,20,7,6,5,4,3,2,0,1] [4,3,2]] []<|bj 48 (e.kind == (1:Int)) bE<|zq<|bj 79 (e.kind == (2:Int)) bE<|zP 1 [{}] [.aa [102,79,48,20,7,6,5,4,3,2,0,1] [4,3,2]] []<|dr 102 (e.kind == (3:Int)) fi<|zS<|zP 1 [yH ([(7,{av:=some (ai ((2:Int)*e.bt)),g:=false}),(10,{b:=false})]++yg [5,6,8,9])] [.aa [114,102,79,48,20,7,6,5,4,3,2,0,1] [4,3,2]] (yM 3 (yF (e.bt>(↑g.al.length:Int)))++ [yN ((2:Int)*e.bt)]++yM 3 (yF (e.bt>(↑g.al.length:Int))))<|dp 114 ((2:Int)*e.bt≤(↑g.al.length:Int))<|a7<|zX {} [yL 3 5]<|aL<|ak (⟨(),rfl,(zW [.aa [7,6,4,3,2,0,1] [4,3,2]])⟩)
  by_cases k4:e.kind=4
  ·have ce:gK g e=if 8≤g.aJ.length then 12 else if vi g.aJ e.dep.bF<g.aJ.length then 10 else ff (sv g e.dep.ae) e.dep.ae.length:=by unfold gK;rw [if_neg k1,if_neg k2,if_neg k3,if_pos k4]
   by_cases c1:8≤g.aJ.length
   ·rw [if_pos c1] at ce
    have cg:cP g e=g:=if_pos aj
    rw [AK] at ce;rw [sS] at cg
    subst ce cg
    refine zq<|zB 0<|zP 1 [{}] [.aa [48,20,7,6,5,4,3,2,0,1] [4,3,2]] []<|bj 48 (e.kind == (1:Int)) bE<|zq<|bj 79 (e.kind == (2:Int)) bE<|zP 1 [{}] [.aa [102,79,48,20,7,6,5,4,3,2,0,1] [4,3,2]] []<|bj 102 (e.kind == (3:Int)) bE<|zq<|dr 119 (e.kind == (4:Int)) fi<|zS<|zP 1 [yH [(2,{k:=G.aJ.length})]] [.aa [124,119,102,79,48,20,7,6,5,4,3,2,0,1] [4,3,2]] [yI qt]<|ib 124 ((↑G.aJ.length:Int)≥8)<|zP 1 [{}] [.aa [5,124,119,102,79,48,20,7,6,4,3,2,0,1] [4,3,2]] [yL 5 5]<|dt<|bc<|aK (bU)
   rw [if_neg c1] at ce
   rcases nS g.aJ e.dep.bF with ⟨hf,hk⟩|⟨k,hf,hk,iF⟩
   case inr =>
    rw [if_pos aj] at ce
    have cg:cP g e=g:=if_pos aj
    rw [AK] at ce;rw [sS] at cg
    subst ce cg
    rw [hk] at Cm
    refine zq<|zB 0<|zP 1 [{}] [.aa [48,20,7,6,5,4,3,2,0,1] [4,3,2]] []<|bj 48 (e.kind == (1:Int)) bE<|zq<|bj 79 (e.kind == (2:Int)) bE<|zP 1 [{}] [.aa [102,79,48,20,7,6,5,4,3,2,0,1] [4,3,2]] []<|bj 102 (e.kind == (3:Int)) bE<|zq<|dr 119 (e.kind == (4:Int)) fi<|zS<|zP 1 [yH [(2,{k:=G.aJ.length})]] [.aa [124,119,102,79,48,20,7,6,5,4,3,2,0,1] [4,3,2]] [yI qt]<|dp 124 ((↑G.aJ.length:Int)≥8)<|a7<|zS<|zP 1 [yH [(5,yV (ai ↑k))]] [.aa [132,124,119,102,79,48,20,7,6,5,4,3,2,0,1] [4,3,2]] [yI Cm]<|ib 132 ((↑k:Int)≥0)<|zP 1 [{}] [.aa [5,132,124,119,102,79,48,20,7,6,4,3,2,0,1] [4,3,2]] [yL 5 5]<|dt<|bc<|aK (bU)
   rw [if_neg aj] at ce
   rw [hk] at Cm
   have Qv:(af ay e.dep.ae).length=e.dep.ae.length:=by rw [aE (e:=1) (fun _=>rfl)];omega
   refine zq<|zB 0<|zP 1 [{}] [.aa [48,20,7,6,5,4,3,2,0,1] [4,3,2]] []<|bj 48 (e.kind == (1:Int)) bE<|zq<|bj 79 (e.kind == (2:Int)) bE<|zP 1 [{}] [.aa [102,79,48,20,7,6,5,4,3,2,0,1] [4,3,2]] []<|bj 102 (e.kind == (3:Int)) bE<|zq<|dr 119 (e.kind == (4:Int)) fi<|zS<|zP 1 [yH [(2,{k:=g.aJ.length})]] [.aa [124,119,102,79,48,20,7,6,5,4,3,2,0,1] [4,3,2]] [yI qt]<|dp 124 ((↑g.aJ.length:Int)≥8)<|a7<|zS<|zP 1 [yH [(5,yV (ai (-1:Int)))]] [.aa [132,124,119,102,79,48,20,7,6,5,4,3,2,0,1] [4,3,2]] [yI Cm]<|dp 132 ((-1:Int)≥0)<|a7<|zS<|zq<|zB 2 (zL (fun (i:Nat)=>(⟨[(132,ao (decide ((-1:Int)≥0))),(124,ao (decide ((↑g.aJ.length:Int)≥8))),(119,ao (e.kind == (4:Int))),(102,ao (e.kind == (3:Int))),(79,ao (e.kind == (2:Int))),(48,ao (e.kind == (1:Int))),(20,ai e.kind),(7,ai (dC g.al e.name)),(6,ai (↑g.al.length:Int)),(4,AV.addr 4 0),(3,AV.addr 3 0),(2,AV.addr 2 0),(0,AV.agg (bV g)),(1,AV.agg (bX e)),(8,ai i)],[(4,⟨1,false,true,[ai 0,dW,ai 0,AV.nil,AV.nil]⟩),(3,⟨1,false,true,(bX e)⟩),(2,⟨1,false,true,List.map (aR 4) (List.map (aR 3) (List.map (aR 2) (bV g)))⟩)]⟩:AS)) (fun i=>(i≤e.dep.ae.length∧ff (sv g e.dep.ae) i=0)) (fun i=>(e.dep.ae.length-i)) (0) ?_ (zW [.aa [132,124,119,102,79,48,20,7,6,4,3,2,0,1,8] [4,3,2]]) ?_)
   ·exact ⟨aj,rfl⟩
   rintro i ⟨hi,h0⟩
   refine zS<|zP 1 [yH [(4,{k:=(af ay e.dep.ae).length})]] [.aa [139,132,124,119,102,79,48,20,7,6,4,3,2,0,1,8] [4,3,2]] [yR ((af ay e.dep.ae).length)] (zD 139 ((↑i:Int)<(↑(af ay e.dep.ae).length:Int)) (fun q=>?_) (fun q=>?_))
   ·have dD:i<e.dep.ae.length:=aj
    have gT:=jn dD
    have D_:=l_ g.al (e.dep.ae.getD i default) aj
    rcases gG g.al (e.dep.ae.getD i default) with hm|⟨k,hm,Rw,-⟩
    ·have hs:sv g e.dep.ae i=11:=if_pos aj
     have Qe:ff (sv g e.dep.ae) (i+1)=11:=by show (if _ then _ else _)=_;rw [if_neg aj,hs]
     rw [k9 aj Qe _ dD] at ce
     have cg:cP g e=g:=if_pos aj
     rw [AK] at ce;rw [sS] at cg
     subst ce cg
     rw [hm] at D_
     refine a7<|zS<|zB 3<|zP 1 [{hs:=[(6,{k:=i}),(7,yV (cZ (e.dep.ae.getD i default))),(8,yV (ai (-1:Int)))],T:=8}] [.aa [151,139,132,124,119,102,79,48,20,7,6,4,3,2,0,1,8] [4,3,2]] [yR (↑i:Int),yO (i<(af ay e.dep.ae).length),yI gT,yI D_]<|ib 151 ((-1:Int)<0)<|zP 1 [{}] [.aa [5,151,139,132,124,119,102,79,48,20,7,6,4,3,2,0,1,8] [4,3,2]] [yL 5 5]<|zR<|bc<|aK<|dz<|bc<|aK<|bc<|aK (bU)
    ·have hs:sv g e.dep.ae i=0:=if_neg aj
     rw [hm] at D_
     refine a7<|zS<|zB 3<|zP 1 [{hs:=[(6,{k:=i}),(7,yV (cZ (e.dep.ae.getD i default))),(8,yV (ai ↑k))],T:=8}] [.aa [151,139,132,124,119,102,79,48,20,7,6,4,3,2,0,1,8] [4,3,2]] [yR (↑i:Int),yO (i<(af ay e.dep.ae).length),yI gT,yI D_]<|dp 151 ((↑k:Int)<0)<|zK<|aL<|ak<|zX (yH [(1,yV (ai ((↑i:Int)+1)))]) [yN ((↑i:Int)+1)] (aH (i+1) ⟨aj,by show (if _ then _ else _)=_;rw [if_neg aj,hs]⟩ aj (zW [.aa [132,124,119,102,79,48,20,7,6,4,3,2,0,1,8] [4,3,2]]))
   ·have ei:i=e.dep.ae.length:=aj
    subst ei
    rw [h0] at ce
    have cg:cP g e=⟨g.aA,g.head,g.bt,g.al,g.aJ++ [e.dep]⟩:=by unfold cP;rw [if_neg aj,if_neg k1,if_neg k2,if_neg k3,if_pos k4]
    rw [AK] at ce;rw [sS] at cg
    subst ce cg
    have s1:af bg g.aJ++bg e.dep=af bg (g.aJ++ [e.dep]):=gJ _ _
    refine zE 2<|a_<|aP<|bo<|ak<|Bu 6 [2] [(2,{b:=false}),(6,yV (AV.arr (af bg (g.aJ++ [e.dep]))))] [yB (cH (af bg g.aJ)) (dG (fun x=>dP rfl) _),yO ((0+(af bg g.aJ).length)*104≤985162418487296),yR (AV.addr 3 7),yR (AV.agg (bg e.dep)),yR (AV.sl 7 (bg e.dep)),yI s1,yO (((af bg g.aJ).length+7)*104≤985162418487296),yL 5 5]<|aL<|ak (⟨(),rfl,(zW [.gp 159,.aa [7,6,4,3,2,0,1] [4,3,2]])⟩)
  have k5:e.kind=5:=aj
  have ce:gK g e=if vi g.aJ e.bF=g.aJ.length then 11 else if (g.aJ.getD (vi g.aJ e.bF) default).target≠0 then 18 else 0:=by unfold gK;rw [if_neg k1,if_neg k2,if_neg k3,if_neg k4]
  rcases nS g.aJ e.bF with ⟨hf,hk⟩|⟨k,hf,hk,iF⟩
  ·rw [if_pos hf] at ce
   have cg:cP g e=g:=if_pos aj
   rw [AK] at ce;rw [sS] at cg
   subst ce cg
   rw [hk] at Ic
   refine zq<|zB 0<|zP 1 [{}] [.aa [48,20,7,6,5,4,3,2,0,1] [4,3,2]] []<|bj 48 (e.kind == (1:Int)) bE<|zq<|bj 79 (e.kind == (2:Int)) bE<|zP 1 [{}] [.aa [102,79,48,20,7,6,5,4,3,2,0,1] [4,3,2]] []<|bj 102 (e.kind == (3:Int)) bE<|zq<|bj 119 (e.kind == (4:Int)) bE<|zP 1 [yH [(4,yV (ai (-1:Int)))]] [.aa [9,119,102,79,48,20,7,6,5,4,3,2,0,1] [4,3,2]] [yI Ic]<|zS<|zq<|ib 27 ((-1:Int)<0)<|zP 1 [{}] [.aa [5,27,9,119,102,79,48,20,7,6,4,3,2,0,1] [4,3,2]] [yL 5 5]<|dt<|bc<|aK (bU)
  rw [if_neg aj,hf] at ce
  rw [hk] at Ic
  have gT:=yn iF
  by_cases c1:(g.aJ.getD k default).target=0
  case neg =>
   rw [if_pos c1] at ce
   have cg:cP g e=g:=if_pos aj
   rw [AK] at ce;rw [sS] at cg
   subst ce cg
   refine zq<|zB 0<|zP 1 [{}] [.aa [48,20,7,6,5,4,3,2,0,1] [4,3,2]] []<|bj 48 (e.kind == (1:Int)) bE<|zq<|bj 79 (e.kind == (2:Int)) bE<|zP 1 [{}] [.aa [102,79,48,20,7,6,5,4,3,2,0,1] [4,3,2]] []<|bj 102 (e.kind == (3:Int)) bE<|zq<|bj 119 (e.kind == (4:Int)) bE<|zP 1 [yH [(4,yV (ai ↑k))]] [.aa [9,119,102,79,48,20,7,6,5,4,3,2,0,1] [4,3,2]] [yI Ic]<|zS<|zq<|dp 27 ((↑k:Int)<0)<|a7<|zS<|zP 1 [yH [(3,{k:=k}),(5,yV (aw ((G.aJ.getD k default).target))),(6,yV (ao ((G.aJ.getD k default).target != 0)))]] [.aa [35,27,9,119,102,79,48,20,7,6,5,4,3,2,0,1] [4,3,2]] [yR (↑k:Int),yO (k*7<(af bg G.aJ).length),yA bg G.aJ k 6,yI (cI ((G.aJ.getD k default).target) 0)]<|dr 35 ((G.aJ.getD k default).target != 0) (by simp_all)<|zP 1 [{}] [.aa [5,35,27,9,119,102,79,48,20,7,6,4,3,2,0,1] [4,3,2]] [yL 5 5]<|dt<|bc<|aK (bU)
  rw [if_neg (fun q=>q c1)] at ce
  have cg:cP g e=⟨g.aA,g.head,g.bt,g.al,tG g.aJ k e.target⟩:=by unfold cP;rw [if_neg aj,if_neg k1,if_neg k2,if_neg k3,if_neg k4,hf]
  rw [AK] at ce;rw [sS] at cg
  subst ce cg
  have s1:=Bc iF e.target
  refine zq<|zB 0<|zP 1 [{}] [.aa [48,20,7,6,5,4,3,2,0,1] [4,3,2]] []<|bj 48 (e.kind == (1:Int)) bE<|zq<|bj 79 (e.kind == (2:Int)) bE<|zP 1 [{}] [.aa [102,79,48,20,7,6,5,4,3,2,0,1] [4,3,2]] []<|bj 102 (e.kind == (3:Int)) bE<|zq<|bj 119 (e.kind == (4:Int)) bE<|zP 1 [yH [(4,yV (ai ↑k))]] [.aa [9,119,102,79,48,20,7,6,5,4,3,2,0,1] [4,3,2]] [yI Ic]<|zS<|zq<|dp 27 ((↑k:Int)<0)<|a7<|zS<|zP 1 [yH [(3,{k:=k}),(5,yV (aw ((g.aJ.getD k default).target))),(6,yV (ao false))]] [.aa [35,27,9,119,102,79,48,20,7,6,5,4,3,2,0,1] [4,3,2]] [yR (↑k:Int),yO (k*7<(af bg g.aJ).length),yA bg g.aJ k 6,yB (ao (wv (g.aJ.getD k default).target != (0:Int))=ao false) (by rw [c1];rfl)]<|zF 35<|a7<|zP 2 [yH [(2,{b:=false})],yH [(4,{k:=k}),(6,yV (AV.arr (af bg (tG g.aJ k e.target))))]] [.aa [41,10,35,27,9,119,102,79,48,20,7,6,5,4,3,2,0,1] [39,4,3,2]] [yB (cH (af bg g.aJ)) (dG (fun x=>dP rfl) _),yO ((0+(af bg g.aJ).length)*104≤985162418487296),yR (↑k:Int),yO (k*7<(af bg g.aJ).length),yI s1,yO (k*7+6+1≤(af bg g.aJ).length)]<|zX {} [yL 5 5]<|aL<|ak (⟨(),rfl,(zW [.gp 39,.aa [7,6,4,3,2,0,1] [4,3,2]])⟩)
 ·intro x hx
  subst hx
  refine zP 1 [{}] [.aa [5,7,6,4,3,2,0,1] [4,3,2]] [yL 5 5]<|zR (bU)
end Go.Proofs.YtjgbhhnghedgdaaGreatDoor
