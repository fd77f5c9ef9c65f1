import Derived.Test.YtjgbhhnghedgdaaGreatDoorZmTk7r
set_option linter.all false
namespace Go.Proofs.YtjgbhhnghedgdaaGreatDoor
open Go.RowKit
set_option maxRecDepth 100000
set_option maxHeartbeats 4000000
structure mj (g:gp):Prop where
 V9:0≤g.aA
 Rq:g.aA≤2147483647
 m8:g.al.length≤8
 t0:0≤g.br
 t1:g.br≤8
 d8:g.aL.length≤8
theorem zt {l:List np} {i:Nat} (h:i<l.length):List.take 7 (List.drop (i*7) (ae a_ l))=a_ (l.getD i default):=jm (e:=7) (fun _=>rfl) h
theorem B0 {l:List np} {k:Nat} (hk:k<l.length) (t:UInt64):(ae a_ l).set (k*7+6) (aw t)=ae a_ (q8 l k t):=by
 unfold q8
 induction l generalizing k with
 | nil=>cases hk
 | cons m l ih =>
  cases k with
  | zero=>rfl
  | succ k =>
   have:=ih (k:=k) (by simpa using hk)
   rw [show (k+1)*7+6=k*7+6+7 by omega]
   show a_ m++(ae a_ l).set (k*7+6) (aw t)=a_ m++ae a_ (l.set k {l.getD k default with target:=t})
   rw [this]
theorem LS (l:List Mem) (k:Nat):(ae aG l).take (k*4)++(ae aG l).drop ((k+1)*4)=ae aG (pG l k):=by
 rw [oy (e:=4) (fun _=>rfl),mc (e:=4) (fun _=>rfl),fG];rfl
theorem oq (l:List np) (p:UInt64):(vP l p=l.length∧DR l p= -1)∨ ∃k:Nat,vP l p=k∧DR l p=k∧k<l.length:=by
 unfold DR
 by_cases h:vP l p<l.length
 ·exact .inr ⟨_,rfl,if_pos h,h⟩
 ·have:vP l p≤l.length:=List.findIdx_le_length
  exact .inl ⟨ah,if_neg h⟩
theorem vZ (g:gp) (e:dP) (hG:mj g) (h1:1≤e.kind) (h5:e.kind≤5) (ht:e.kind=3->1≤e.br∧e.br≤8) (hh:e.dep.af.length≤1000000):bC Tryz.prog 63 [.agg (bo g),.agg (aI e)] (.bk [.agg (bo (cS g e)),ai (gL g e)]):=by
 obtain ⟨g1,g2,g3,g4,g5,g6⟩:=hG
 have ml:(ae aG g.al).length=g.al.length*4:=aE (e:=4) (fun _=>rfl) ..
 have qQ:(ae a_ g.aL).length=g.aL.length*7:=aE (e:=7) (fun _=>rfl) ..
 have nm:=my g.al e.name ah
 have Dc:=p8 g.aL e.dep.bY ah
 have I8:=p8 g.aL e.bY ah
 generalize tr:cS g e=G
 generalize BC:gL g e=E
 refine zO Tryz.func63 162<|zP 3 [{},yH [(2,{k:=g.al.length})],yH [(4,yV (ai (dG g.al e.name)))]] [.aa [7,6,5,4,3,2,0,1] [4,3,2]] [yI ml,yI nm] (bf.nJ (fun (x:Unit)=>(⟨[(7,ai (dG g.al e.name)),(6,ai (↑g.al.length:Int)),(4,AV.addr 4 0),(3,AV.addr 3 0),(2,AV.addr 2 0),(0,AV.agg (bo g)),(1,AV.agg (aI e))],[(4,⟨1,false,true,[ai 0,cN,ai 0,AV.nil,AV.nil]⟩),(3,⟨1,false,true,(aI e)⟩),(2,⟨1,false,true,bo G⟩)]⟩:AS)) (fun x=>(E=0)) bt ?_ ?_)
 ·by_cases k1:e.kind=1
  ·have ce:gL g e=if 0≤dG g.al e.name then 10 else if 8≤g.al.length then 12 else 0:=if_pos k1
   by_cases c1:0≤dG g.al e.name
   ·rw [if_pos c1] at ce
    have cg:cS g e=g:=if_pos ah
    rw [BC] at ce;rw [tr] at cg
    subst ce cg
    refine zq<|zB 0<|zP 1 [{}] [.aa [48,20,7,6,5,4,3,2,0,1] [4,3,2]] []<|dm 48 (e.kind == (1:Int)) eg<|zS<|zB 1<|zP 1 [{}] [.aa [50,48,20,7,6,5,4,3,2,0,1] [4,3,2]] []<|gN 50 (dG G.al e.name≥0)<|zP 1 [{}] [.aa [5,50,48,20,7,6,4,3,2,0,1] [4,3,2]] [yL 5 5]<|zR<|bc<|aN<|bc<|aN (bL)
   by_cases c2:8≤g.al.length
   ·rw [if_neg c1,if_pos c2] at ce
    have cg:cS g e=g:=if_pos ah
    rw [BC] at ce;rw [tr] at cg
    subst ce cg
    refine zq<|zB 0<|zP 1 [{}] [.aa [48,20,7,6,5,4,3,2,0,1] [4,3,2]] []<|dm 48 (e.kind == (1:Int)) eg<|zS<|zB 1<|zP 1 [{}] [.aa [50,48,20,7,6,5,4,3,2,0,1] [4,3,2]] []<|dq 50 (dG G.al e.name≥0)<|zP 1 [{}] [.aa [54,50,48,20,7,6,5,4,3,2,0,1] [4,3,2]] []<|gN 54 ((↑G.al.length:Int)≥8)<|zP 1 [{}] [.aa [5,54,50,48,20,7,6,4,3,2,0,1] [4,3,2]] [yL 5 5]<|zR<|bc<|aN<|bc<|aN (bL)
   rw [if_neg c1,if_neg c2] at ce
   have s1:ae aG g.al++aG ⟨e.name,e.kh,e.kr,0⟩=ae aG (g.al++ [⟨e.name,e.kh,e.kr,0⟩]):=fh _ _
   by_cases c3:2*g.br≤g.al.length+1
   ·have cg:cS g e=⟨g.aA,g.head,g.br+1,g.al++ [⟨e.name,e.kh,e.kr,0⟩],g.aL⟩:=by unfold cS;rw [if_neg ah,if_pos k1,if_pos c3]
    rw [BC] at ce;rw [tr] at cg
    subst ce cg
    refine zq<|zB 0<|zP 1 [{}] [.aa [48,20,7,6,5,4,3,2,0,1] [4,3,2]] []<|dm 48 (e.kind == (1:Int)) eg<|zS<|zB 1<|zP 1 [{}] [.aa [50,48,20,7,6,5,4,3,2,0,1] [4,3,2]] []<|dq 50 (dG g.al e.name≥0)<|zP 1 [{}] [.aa [54,50,48,20,7,6,5,4,3,2,0,1] [4,3,2]] []<|dq 54 ((↑g.al.length:Int)≥8)<|zK<|aM<|ak<|zS<|zP 1 [yH [(2,yV (ai ((2:Int)*g.br))),(4,yV (ai ((↑g.al.length:Int)+1)))]] [.aa [63,54,50,48,20,7,6,5,4,3,2,0,1] [4,3,2]] [yN ((2:Int)*g.br),yN ((↑g.al.length:Int)+1)]<|gN 63 ((2:Int)*g.br≤(↑g.al.length:Int)+1)<|zX (yH [(2,yV (ai (g.br+1)))]) [yN (g.br+1),yL 3 5]<|ak<|wz 9 [2] [(2,{b:=false}),(9,yV (AV.arr (ae aG (g.al++ [Mem.mk e.name e.kh e.kr 0]))))] [yB (cE (ae aG g.al)) (dD (fun x=>dL rfl) _),yO ((0+(ae aG g.al).length)*40≤562949953421312),yR (AV.addr 3 3),yR (cQ e.name),yR (AV.addr 3 4),yR (AV.agg [ai e.kh,aw e.kr]),yR (AV.agg [cQ e.name,ai e.kh,aw e.kr,cN]),yR (AV.sl 4 [cQ e.name,ai e.kh,aw e.kr,cN]),yI s1,yO (((ae aG g.al).length+4)*40≤562949953421312),yL 4 5]<|aM<|ak (⟨(),rfl,(zW [.gq 77,.aa [7,6,4,3,2,0,1] [4,3,2]])⟩)
   ·have cg:cS g e=⟨g.aA,g.head,g.br,g.al++ [⟨e.name,e.kh,e.kr,0⟩],g.aL⟩:=by unfold cS;rw [if_neg ah,if_pos k1,if_neg c3]
    rw [BC] at ce;rw [tr] at cg
    subst ce cg
    refine zq<|zB 0<|zP 1 [{}] [.aa [48,20,7,6,5,4,3,2,0,1] [4,3,2]] []<|dm 48 (e.kind == (1:Int)) eg<|zS<|zB 1<|zP 1 [{}] [.aa [50,48,20,7,6,5,4,3,2,0,1] [4,3,2]] []<|dq 50 (dG g.al e.name≥0)<|zP 1 [{}] [.aa [54,50,48,20,7,6,5,4,3,2,0,1] [4,3,2]] []<|dq 54 ((↑g.al.length:Int)≥8)<|zK<|aM<|ak<|zS<|zP 1 [yH [(2,yV (ai ((2:Int)*g.br))),(4,yV (ai ((↑g.al.length:Int)+1)))]] [.aa [63,54,50,48,20,7,6,5,4,3,2,0,1] [4,3,2]] [yN ((2:Int)*g.br),yN ((↑g.al.length:Int)+1)]<|dq 63 ((2:Int)*g.br≤(↑g.al.length:Int)+1)<|aW<|wz 9 [2] [(2,{b:=false}),(9,yV (AV.arr (ae aG (g.al++ [Mem.mk e.name e.kh e.kr 0]))))] [yB (cE (ae aG g.al)) (dD (fun x=>dL rfl) _),yO ((0+(ae aG g.al).length)*40≤562949953421312),yR (AV.addr 3 3),yR (cQ e.name),yR (AV.addr 3 4),yR (AV.agg [ai e.kh,aw e.kr]),yR (AV.agg [cQ e.name,ai e.kh,aw e.kr,cN]),yR (AV.sl 4 [cQ e.name,ai e.kh,aw e.kr,cN]),yI s1,yO (((ae aG g.al).length+4)*40≤562949953421312),yL 4 5]<|aM<|ak (⟨(),rfl,(zW [.gq 77,.aa [7,6,4,3,2,0,1] [4,3,2]])⟩)
  by_cases k2:e.kind=2
  ·have ce:gL g e=if dG g.al e.name<0 then 11 else if (g.al.length:Int)-1<g.br then 41 else 0:=by unfold gL;rw [if_neg k1,if_pos k2]
   rcases gI g.al e.name with hk|⟨k,hk,iH,Qa⟩
   ·rw [if_pos ah] at ce
    have cg:cS g e=g:=if_pos ah
    rw [BC] at ce;rw [tr] at cg
    subst ce cg
    rw [hk] at nm
    refine zq<|zB 0<|zP 1 [{}] [.aa [48,20,7,6,5,4,3,2,0,1] [4,3,2]] []<|bj 48 (e.kind == (1:Int)) bD<|zq<|dm 79 (e.kind == (2:Int)) eg<|zS<|zP 1 [{}] [.aa [82,79,48,20,7,6,5,4,3,2,0,1] [4,3,2]] []<|gN 82 (dG G.al e.name<0)<|zP 1 [{}] [.aa [5,82,79,48,20,7,6,4,3,2,0,1] [4,3,2]] [yL 5 5]<|dd<|bc<|aN (bL)
   rw [if_neg ah] at ce
   rw [hk] at nm
   have oK:AV.val (.int .i64 (dG g.al e.name))=ai k:=by rw [hk]
   by_cases c2:(g.al.length:Int)-1<g.br
   ·rw [if_pos c2] at ce
    have cg:cS g e=g:=if_pos ah
    rw [BC] at ce;rw [tr] at cg
    subst ce cg
    refine zq<|zB 0<|zP 1 [{}] [.aa [48,20,7,6,5,4,3,2,0,1] [4,3,2]] []<|bj 48 (e.kind == (1:Int)) bD<|zq<|dm 79 (e.kind == (2:Int)) eg<|zS<|zP 1 [{}] [.aa [82,79,48,20,7,6,5,4,3,2,0,1] [4,3,2]] []<|dq 82 (dG G.al e.name<0)<|aW<|zS<|zP 1 [yH [(3,yV (ai ((↑G.al.length:Int)-1)))]] [.aa [88,82,79,48,20,7,6,5,4,3,2,0,1] [4,3,2]] [yN ((↑G.al.length:Int)-1)]<|gN 88 (G.br>(↑G.al.length:Int)-1)<|zP 1 [{}] [.aa [5,88,82,79,48,20,7,6,4,3,2,0,1] [4,3,2]] [yL 5 5]<|dd<|bc<|aN (bL)
   rw [if_neg c2] at ce
   have cg:cS g e=⟨g.aA,g.head,g.br,pG g.al k,g.aL⟩:=by unfold cS;rw [if_neg ah,if_neg k1,if_pos k2,hk];rfl
   rw [BC] at ce;rw [tr] at cg
   subst ce cg
   have s1:=LS g.al k
   have oY:cE (ae aG g.al):=dD (fun x=>dL rfl) _
   have P2:cE ((ae aG g.al).take (k*4)):=fun x hx=>oY x (List.mem_of_mem_take hx)
   have OO:cE ((ae aG g.al).drop ((k+1)*4)):=fun x hx=>oY x (List.mem_of_mem_drop hx)
   refine zq<|zB 0<|zP 1 [{}] [.aa [48,20,7,6,5,4,3,2,0,1] [4,3,2]] []<|bj 48 (e.kind == (1:Int)) bD<|zq<|dm 79 (e.kind == (2:Int)) eg<|zS<|zP 1 [{}] [.aa [82,79,48,20,7,6,5,4,3,2,0,1] [4,3,2]] []<|dq 82 (dG g.al e.name<0)<|aW<|zS<|zP 1 [yH [(3,yV (ai ((↑g.al.length:Int)-1)))]] [.aa [88,82,79,48,20,7,6,5,4,3,2,0,1] [4,3,2]] [yN ((↑g.al.length:Int)-1)]<|dq 88 (g.br>(↑g.al.length:Int)-1)<|aW<|wz 10 [4] [(2,yV (ai ↑k)),(3,{m:=k}),(4,{b:=false}),(8,yV (ai (↑(k+1):Int))),(9,{k:=k+1}),(10,{av:=some (AV.arr (ae aG (pG g.al k))),b:=false})] [yI oK,yR (↑k:Int),yO (k*4≤(ae aG g.al).length),yB (ai (IntKind.i64.wrap (dG g.al e.name+1))=ai (↑(k+1):Int)) (congrArg (fun n=>AV.val (.int .i64 n)) (by rw [IntKind.wrap_i64];omega)),yR (↑(k+1):Int),yO ((k+1)*4≤(ae aG g.al).length),yI P2,yB ((0+(List.take (k*4) (ae aG g.al)).length)*40≤562949953421312) (by simp only [List.length_take];omega),yR (AV.addr 2 3),yR (AV.sl 4 (ae aG g.al)),yR (ai (dG g.al e.name)),yR (ai (↑(k+1):Int)),yB (ai (IntKind.i64.wrap (dG g.al e.name+1))=ai (↑(k+1):Int)) (congrArg (fun n=>AV.val (.int .i64 n)) (by rw [IntKind.wrap_i64];omega)),yR (AV.sl 4 (List.drop ((k+1)*4) (ae aG g.al))),yR (↑(k+1):Int),yO ((k+1)*4≤(ae aG g.al).length),yI s1,yI OO,yB (((List.take (k*4) (ae aG g.al)).length+(List.drop ((k+1)*4) (ae aG g.al)).length)*40≤562949953421312) (by simp only [List.length_take,List.length_drop];omega),yL 4 5]<|aM<|ak (⟨(),rfl,(zW [.gq 100,.aa [7,6,4,3,2,0,1] [4,3,2]])⟩)
  by_cases k3:e.kind=3
  ·obtain ⟨t1,t2⟩:=ht k3
   have ce:gL g e=if (g.al.length:Int)<e.br∨2*e.br≤g.al.length then 41 else 0:=by unfold gL;rw [if_neg k1,if_neg k2,if_pos k3]
   by_cases c1:(g.al.length:Int)<e.br
   ·rw [if_pos (.inl c1)] at ce
    have cg:cS g e=g:=if_pos ah
    rw [BC] at ce;rw [tr] at cg
    subst ce cg
    refine zq<|zB 0<|zP 1 [{}] [.aa [48,20,7,6,5,4,3,2,0,1] [4,3,2]] []<|bj 48 (e.kind == (1:Int)) bD<|zq<|bj 79 (e.kind == (2:Int)) bD<|zP 1 [{}] [.aa [102,79,48,20,7,6,5,4,3,2,0,1] [4,3,2]] []<|dm 102 (e.kind == (3:Int)) eg<|zS<|zP 1 [{}] [.aa [114,102,79,48,20,7,6,5,4,3,2,0,1] [4,3,2]] (yM 6 (yT (e.br>(↑G.al.length:Int))))<|zT 114<|zP 1 [{}] [.aa [5,114,102,79,48,20,7,6,4,3,2,0,1] [4,3,2]] [yL 5 5]<|dd<|bc<|aN (bL)
   by_cases c2:2*e.br≤g.al.length
   ·rw [if_pos (.inr c2)] at ce
    have cg:cS g e=g:=if_pos ah
    rw [BC] at ce;rw [tr] at cg
    subst ce cg
    refine zq<|zB 0<|zP 1 [{}] [.aa [48,20,7,6,5,4,3,2,0,1] [4,3,2]] []<|bj 48 (e.kind == (1:Int)) bD<|zq<|bj 79 (e.kind == (2:Int)) bD<|zP 1 [{}] [.aa [102,79,48,20,7,6,5,4,3,2,0,1] [4,3,2]] []<|dm 102 (e.kind == (3:Int)) eg<|zS<|zP 1 [yH ([(7,{av:=some (ai ((2:Int)*e.br)),g:=false}),(10,{b:=false})]++yg [5,6,8,9])] [.aa [114,102,79,48,20,7,6,5,4,3,2,0,1] [4,3,2]] (yM 3 (yF (e.br>(↑G.al.length:Int)))++ [yN ((2:Int)*e.br)]++yM 3 (yF (e.br>(↑G.al.length:Int))))<|gN 114 ((2:Int)*e.br≤(↑G.al.length:Int))<|zP 1 [{}] [.aa [5,114,102,79,48,20,7,6,4,3,2,0,1] [4,3,2]] [yL 5 5]<|dd<|bc<|aN (bL)
   rw [if_neg ah] at ce
   have cg:cS g e=⟨g.aA,g.head,e.br,g.al,g.aL⟩:=by unfold cS;rw [if_neg ah,if_neg k1,if_neg k2,if_pos k3]
   rw [BC] at ce;rw [tr] at cg
   subst ce cg
   refine zq<|zB 0<|zP 1 [{}] [.aa [48,20,7,6,5,4,3,2,0,1] [4,3,2]] []<|bj 48 (e.kind == (1:Int)) bD<|zq<|bj 79 (e.kind == (2:Int)) bD<|zP 1 [{}] [.aa [102,79,48,20,7,6,5,4,3,2,0,1] [4,3,2]] []<|dm 102 (e.kind == (3:Int)) eg<|zS<|zP 1 [yH ([(7,{av:=some (ai ((2:Int)*e.br)),g:=false}),(10,{b:=false})]++yg [5,6,8,9])] [.aa [114,102,79,48,20,7,6,5,4,3,2,0,1] [4,3,2]] (yM 3 (yF (e.br>(↑g.al.length:Int)))++ [yN ((2:Int)*e.br)]++yM 3 (yF (e.br>(↑g.al.length:Int))))<|dq 114 ((2:Int)*e.br≤(↑g.al.length:Int))<|aW<|zX {} [yL 3 5]<|aM<|ak (⟨(),rfl,(zW [.aa [7,6,4,3,2,0,1] [4,3,2]])⟩)
  by_cases k4:e.kind=4
  ·have ce:gL g e=if 8≤g.aL.length then 12 else if vP g.aL e.dep.bY<g.aL.length then 10 else ff (sX g e.dep.af) e.dep.af.length:=by unfold gL;rw [if_neg k1,if_neg k2,if_neg k3,if_pos k4]
   by_cases c1:8≤g.aL.length
   ·rw [if_pos c1] at ce
    have cg:cS g e=g:=if_pos ah
    rw [BC] at ce;rw [tr] at cg
    subst ce cg
    refine zq<|zB 0<|zP 1 [{}] [.aa [48,20,7,6,5,4,3,2,0,1] [4,3,2]] []<|bj 48 (e.kind == (1:Int)) bD<|zq<|bj 79 (e.kind == (2:Int)) bD<|zP 1 [{}] [.aa [102,79,48,20,7,6,5,4,3,2,0,1] [4,3,2]] []<|bj 102 (e.kind == (3:Int)) bD<|zq<|dm 119 (e.kind == (4:Int)) eg<|zS<|zP 1 [yH [(2,{k:=G.aL.length})]] [.aa [124,119,102,79,48,20,7,6,5,4,3,2,0,1] [4,3,2]] [yI qQ]<|gN 124 ((↑G.aL.length:Int)≥8)<|zP 1 [{}] [.aa [5,124,119,102,79,48,20,7,6,4,3,2,0,1] [4,3,2]] [yL 5 5]<|dd<|bc<|aN (bL)
   rw [if_neg c1] at ce
   rcases oq g.aL e.dep.bY with ⟨hf,hk⟩|⟨k,hf,hk,iH⟩
   case inr =>
    rw [if_pos ah] at ce
    have cg:cS g e=g:=if_pos ah
    rw [BC] at ce;rw [tr] at cg
    subst ce cg
    rw [hk] at Dc
    refine zq<|zB 0<|zP 1 [{}] [.aa [48,20,7,6,5,4,3,2,0,1] [4,3,2]] []<|bj 48 (e.kind == (1:Int)) bD<|zq<|bj 79 (e.kind == (2:Int)) bD<|zP 1 [{}] [.aa [102,79,48,20,7,6,5,4,3,2,0,1] [4,3,2]] []<|bj 102 (e.kind == (3:Int)) bD<|zq<|dm 119 (e.kind == (4:Int)) eg<|zS<|zP 1 [yH [(2,{k:=G.aL.length})]] [.aa [124,119,102,79,48,20,7,6,5,4,3,2,0,1] [4,3,2]] [yI qQ]<|dq 124 ((↑G.aL.length:Int)≥8)<|aW<|zS<|zP 1 [yH [(5,yV (ai ↑k))]] [.aa [132,124,119,102,79,48,20,7,6,5,4,3,2,0,1] [4,3,2]] [yI Dc]<|gN 132 ((↑k:Int)≥0)<|zP 1 [{}] [.aa [5,132,124,119,102,79,48,20,7,6,4,3,2,0,1] [4,3,2]] [yL 5 5]<|dd<|bc<|aN (bL)
   rw [if_neg ah] at ce
   rw [hk] at Dc
   have Rg:(ae ax e.dep.af).length=e.dep.af.length:=by rw [aE (e:=1) (fun _=>rfl)];omega
   refine zq<|zB 0<|zP 1 [{}] [.aa [48,20,7,6,5,4,3,2,0,1] [4,3,2]] []<|bj 48 (e.kind == (1:Int)) bD<|zq<|bj 79 (e.kind == (2:Int)) bD<|zP 1 [{}] [.aa [102,79,48,20,7,6,5,4,3,2,0,1] [4,3,2]] []<|bj 102 (e.kind == (3:Int)) bD<|zq<|dm 119 (e.kind == (4:Int)) eg<|zS<|zP 1 [yH [(2,{k:=g.aL.length})]] [.aa [124,119,102,79,48,20,7,6,5,4,3,2,0,1] [4,3,2]] [yI qQ]<|dq 124 ((↑g.aL.length:Int)≥8)<|aW<|zS<|zP 1 [yH [(5,yV (ai (-1:Int)))]] [.aa [132,124,119,102,79,48,20,7,6,5,4,3,2,0,1] [4,3,2]] [yI Dc]<|dq 132 ((-1:Int)≥0)<|aW<|zS<|zq<|zB 2 (zL (fun (i:Nat)=>(⟨[(132,ao (decide ((-1:Int)≥0))),(124,ao (decide ((↑g.aL.length:Int)≥8))),(119,ao (e.kind == (4:Int))),(102,ao (e.kind == (3:Int))),(79,ao (e.kind == (2:Int))),(48,ao (e.kind == (1:Int))),(20,ai e.kind),(7,ai (dG g.al e.name)),(6,ai (↑g.al.length:Int)),(4,AV.addr 4 0),(3,AV.addr 3 0),(2,AV.addr 2 0),(0,AV.agg (bo g)),(1,AV.agg (aI e)),(8,ai i)],[(4,⟨1,false,true,[ai 0,cN,ai 0,AV.nil,AV.nil]⟩),(3,⟨1,false,true,(aI e)⟩),(2,⟨1,false,true,List.map (aB 4) (List.map (aB 3) (List.map (aB 2) (bo g)))⟩)]⟩:AS)) (fun i=>(i≤e.dep.af.length∧ff (sX g e.dep.af) i=0)) (fun i=>(e.dep.af.length-i)) (0) ?_ (zW [.aa [132,124,119,102,79,48,20,7,6,4,3,2,0,1,8] [4,3,2]]) ?_)
   ·exact ⟨ah,rfl⟩
   rintro i ⟨hi,h0⟩
   refine zS<|zP 1 [yH [(4,{k:=(ae ax e.dep.af).length})]] [.aa [139,132,124,119,102,79,48,20,7,6,4,3,2,0,1,8] [4,3,2]] [yR ((ae ax e.dep.af).length)] (zD 139 ((↑i:Int)<(↑(ae ax e.dep.af).length:Int)) (fun q=>?_) (fun q=>?_))
   ·have cX:i<e.dep.af.length:=ah
    have gh:=ie cX
    have EY:=my g.al (e.dep.af.getD i default) ah
    rcases gI g.al (e.dep.af.getD i default) with hm|⟨k,hm,Sj,-⟩
    ·have hs:sX g e.dep.af i=11:=if_pos ah
     have Q2:ff (sX g e.dep.af) (i+1)=11:=by show (if _ then _ else _)=_;rw [if_neg ah,hs]
     rw [jB ah Q2 _ cX] at ce
     have cg:cS g e=g:=if_pos ah
     rw [BC] at ce;rw [tr] at cg
     subst ce cg
     rw [hm] at EY
     refine aW<|zS<|zB 3<|zP 1 [{hs:=[(6,{k:=i}),(7,yV (cQ (e.dep.af.getD i default))),(8,yV (ai (-1:Int)))],T:=8}] [.aa [151,139,132,124,119,102,79,48,20,7,6,4,3,2,0,1,8] [4,3,2]] [yR (↑i:Int),yO (i<(ae ax e.dep.af).length),yI gh,yI EY]<|gN 151 ((-1:Int)<0)<|zP 1 [{}] [.aa [5,151,139,132,124,119,102,79,48,20,7,6,4,3,2,0,1,8] [4,3,2]] [yL 5 5]<|zR<|bc<|aN<|df<|bc<|aN<|bc<|aN (bL)
    ·have hs:sX g e.dep.af i=0:=if_neg ah
     rw [hm] at EY
     refine aW<|zS<|zB 3<|zP 1 [{hs:=[(6,{k:=i}),(7,yV (cQ (e.dep.af.getD i default))),(8,yV (ai ↑k))],T:=8}] [.aa [151,139,132,124,119,102,79,48,20,7,6,4,3,2,0,1,8] [4,3,2]] [yR (↑i:Int),yO (i<(ae ax e.dep.af).length),yI gh,yI EY]<|dq 151 ((↑k:Int)<0)<|zK<|aM<|ak<|zX (yH [(1,yV (ai ((↑i:Int)+1)))]) [yN ((↑i:Int)+1)] (aH (i+1) ⟨ah,by show (if _ then _ else _)=_;rw [if_neg ah,hs]⟩ ah (zW [.aa [132,124,119,102,79,48,20,7,6,4,3,2,0,1,8] [4,3,2]]))
   ·have ei:i=e.dep.af.length:=ah
    subst ei
    rw [h0] at ce
    have cg:cS g e=⟨g.aA,g.head,g.br,g.al,g.aL++ [e.dep]⟩:=by unfold cS;rw [if_neg ah,if_neg k1,if_neg k2,if_neg k3,if_pos k4]
    rw [BC] at ce;rw [tr] at cg
    subst ce cg
    have s1:ae a_ g.aL++a_ e.dep=ae a_ (g.aL++ [e.dep]):=fh _ _
    refine zE 2<|aS<|aK<|bg<|ak<|wz 6 [2] [(2,{b:=false}),(6,yV (AV.arr (ae a_ (g.aL++ [e.dep]))))] [yB (cE (ae a_ g.aL)) (dD (fun x=>dL rfl) _),yO ((0+(ae a_ g.aL).length)*104≤985162418487296),yR (AV.addr 3 7),yR (AV.agg (a_ e.dep)),yR (AV.sl 7 (a_ e.dep)),yI s1,yO (((ae a_ g.aL).length+7)*104≤985162418487296),yL 5 5]<|aM<|ak (⟨(),rfl,(zW [.gq 159,.aa [7,6,4,3,2,0,1] [4,3,2]])⟩)
  have k5:e.kind=5:=ah
  have ce:gL g e=if vP g.aL e.bY=g.aL.length then 11 else if (g.aL.getD (vP g.aL e.bY) default).target≠0 then 18 else 0:=by unfold gL;rw [if_neg k1,if_neg k2,if_neg k3,if_neg k4]
  rcases oq g.aL e.bY with ⟨hf,hk⟩|⟨k,hf,hk,iH⟩
  ·rw [if_pos hf] at ce
   have cg:cS g e=g:=if_pos ah
   rw [BC] at ce;rw [tr] at cg
   subst ce cg
   rw [hk] at I8
   refine zq<|zB 0<|zP 1 [{}] [.aa [48,20,7,6,5,4,3,2,0,1] [4,3,2]] []<|bj 48 (e.kind == (1:Int)) bD<|zq<|bj 79 (e.kind == (2:Int)) bD<|zP 1 [{}] [.aa [102,79,48,20,7,6,5,4,3,2,0,1] [4,3,2]] []<|bj 102 (e.kind == (3:Int)) bD<|zq<|bj 119 (e.kind == (4:Int)) bD<|zP 1 [yH [(4,yV (ai (-1:Int)))]] [.aa [9,119,102,79,48,20,7,6,5,4,3,2,0,1] [4,3,2]] [yI I8]<|zS<|zq<|gN 27 ((-1:Int)<0)<|zP 1 [{}] [.aa [5,27,9,119,102,79,48,20,7,6,4,3,2,0,1] [4,3,2]] [yL 5 5]<|dd<|bc<|aN (bL)
  rw [if_neg ah,hf] at ce
  rw [hk] at I8
  have gh:=zt iH
  by_cases c1:(g.aL.getD k default).target=0
  case neg =>
   rw [if_pos c1] at ce
   have cg:cS g e=g:=if_pos ah
   rw [BC] at ce;rw [tr] at cg
   subst ce cg
   refine zq<|zB 0<|zP 1 [{}] [.aa [48,20,7,6,5,4,3,2,0,1] [4,3,2]] []<|bj 48 (e.kind == (1:Int)) bD<|zq<|bj 79 (e.kind == (2:Int)) bD<|zP 1 [{}] [.aa [102,79,48,20,7,6,5,4,3,2,0,1] [4,3,2]] []<|bj 102 (e.kind == (3:Int)) bD<|zq<|bj 119 (e.kind == (4:Int)) bD<|zP 1 [yH [(4,yV (ai ↑k))]] [.aa [9,119,102,79,48,20,7,6,5,4,3,2,0,1] [4,3,2]] [yI I8]<|zS<|zq<|dq 27 ((↑k:Int)<0)<|aW<|zS<|zP 1 [yH [(3,{k:=k}),(5,yV (aw ((G.aL.getD k default).target))),(6,yV (ao ((G.aL.getD k default).target != 0)))]] [.aa [35,27,9,119,102,79,48,20,7,6,5,4,3,2,0,1] [4,3,2]] [yR (↑k:Int),yO (k*7<(ae a_ G.aL).length),yA a_ G.aL k 6,yI (cJ ((G.aL.getD k default).target) 0)]<|dm 35 ((G.aL.getD k default).target != 0) (by simp_all)<|zP 1 [{}] [.aa [5,35,27,9,119,102,79,48,20,7,6,4,3,2,0,1] [4,3,2]] [yL 5 5]<|dd<|bc<|aN (bL)
  rw [if_neg (fun q=>q c1)] at ce
  have cg:cS g e=⟨g.aA,g.head,g.br,g.al,q8 g.aL k e.target⟩:=by unfold cS;rw [if_neg ah,if_neg k1,if_neg k2,if_neg k3,if_neg k4,hf]
  rw [BC] at ce;rw [tr] at cg
  subst ce cg
  have s1:=B0 iH e.target
  refine zq<|zB 0<|zP 1 [{}] [.aa [48,20,7,6,5,4,3,2,0,1] [4,3,2]] []<|bj 48 (e.kind == (1:Int)) bD<|zq<|bj 79 (e.kind == (2:Int)) bD<|zP 1 [{}] [.aa [102,79,48,20,7,6,5,4,3,2,0,1] [4,3,2]] []<|bj 102 (e.kind == (3:Int)) bD<|zq<|bj 119 (e.kind == (4:Int)) bD<|zP 1 [yH [(4,yV (ai ↑k))]] [.aa [9,119,102,79,48,20,7,6,5,4,3,2,0,1] [4,3,2]] [yI I8]<|zS<|zq<|dq 27 ((↑k:Int)<0)<|aW<|zS<|zP 1 [yH [(3,{k:=k}),(5,yV (aw ((g.aL.getD k default).target))),(6,yV (ao false))]] [.aa [35,27,9,119,102,79,48,20,7,6,5,4,3,2,0,1] [4,3,2]] [yR (↑k:Int),yO (k*7<(ae a_ g.aL).length),yA a_ g.aL k 6,yB (ao (wv (g.aL.getD k default).target != (0:Int))=ao false) (by rw [c1];rfl)]<|zF 35<|aW<|zP 2 [yH [(2,{b:=false})],yH [(4,{k:=k}),(6,yV (AV.arr (ae a_ (q8 g.aL k e.target))))]] [.aa [41,10,35,27,9,119,102,79,48,20,7,6,5,4,3,2,0,1] [39,4,3,2]] [yB (cE (ae a_ g.aL)) (dD (fun x=>dL rfl) _),yO ((0+(ae a_ g.aL).length)*104≤985162418487296),yR (↑k:Int),yO (k*7<(ae a_ g.aL).length),yI s1,yO (k*7+6+1≤(ae a_ g.aL).length)]<|zX {} [yL 5 5]<|aM<|ak (⟨(),rfl,(zW [.gq 39,.aa [7,6,4,3,2,0,1] [4,3,2]])⟩)
 ·intro x hx
  subst hx
  refine zP 1 [{}] [.aa [5,7,6,4,3,2,0,1] [4,3,2]] [yL 5 5]<|zR (bL)
end Go.Proofs.YtjgbhhnghedgdaaGreatDoor
