import Derived.Test.YtjgbhhnghedgdaaGreatDoorZfTk7r
set_option linter.all false
namespace Go.Proofs.YtjgbhhnghedgdaaGreatDoor
open Go.RowKit
set_option maxRecDepth 100000
set_option maxHeartbeats 4000000
structure ni (g:fG):Prop where
 Xn:0≤g.aC
 SC:g.aC≤2147483647
 m8:g.aq.length≤8
 t0:0≤g.bm
 t1:g.bm≤8
 d8:g.aR.length≤8
theorem Ar {l:List oD} {i:Nat} (h:i<l.length):List.take 7 (List.drop (i*7) (ae bk l))=bk (l.getD i default):=jz (e:=7) (fun _=>rfl) h
theorem CE {l:List oD} {k:Nat} (hk:k<l.length) (t:UInt64):(ae bk l).set (k*7+6) (aw t)=ae bk (rO l k t):=by
 unfold rO
 induction l generalizing k with
 | nil=>cases hk
 | cons m l ih =>
  cases k with
  | zero=>rfl
  | succ k =>
   have:=ih (k:=k) (by simpa using hk)
   rw [show (k+1)*7+6=k*7+6+7 by omega]
   show bk m++(ae bk l).set (k*7+6) (aw t)=bk m++ae bk (l.set k {l.getD k default with target:=t})
   rw [this]
theorem MP (l:List Mem) (k:Nat):(ae aN l).take (k*4)++(ae aN l).drop ((k+1)*4)=ae aN (ke l k):=by
 rw [oT (e:=4) (fun _=>rfl),oU (e:=4) (fun _=>rfl),fT];rfl
theorem oO (l:List oD) (p:UInt64):(ug l p=l.length∧EB l p= -1)∨ ∃k:Nat,ug l p=k∧EB l p=k∧k<l.length:=by
 unfold EB
 by_cases h:ug l p<l.length
 ·exact .inr ⟨_,rfl,if_pos h,h⟩
 ·have:ug l p≤l.length:=List.findIdx_le_length
  exact .inl ⟨ag,if_neg h⟩
theorem w_ (g:fG) (e:dj) (hG:ni g) (h1:1≤e.kind) (h5:e.kind≤5) (ht:e.kind=3->1≤e.bm∧e.bm≤8) (hh:e.dep.af.length≤1000000):bA Tryz.prog 63 [.agg (de g),.agg (aG e)] (.b_ [.agg (de (cw g e)),ai (gT g e)]):=by
 obtain ⟨g1,g2,g3,g4,g5,g6⟩:=hG
 have nF:(ae aN g.aq).length=g.aq.length*4:=aA (e:=4) (fun _=>rfl) ..
 have ud:(ae bk g.aR).length=g.aR.length*7:=aA (e:=7) (fun _=>rfl) ..
 have jL:=mM g.aq e.name ag
 have wX:=qv g.aR e.dep.cm ag
 have B6:=qv g.aR e.cm ag
 generalize uf:cw g e=G
 generalize Ce:gT g e=E
 refine zO Tryz.func63 162<|zP 3 [{},yH [(2,{k:=g.aq.length})],yH [(4,yC jL)]] [.aa [7,6,5,4,3,2,0,1] [4,3,2]] [yI nF,yI jL] (bf.pr (fun (x:Unit)=>(⟨[(7,ai (cT g.aq e.name)),(6,ai (↑g.aq.length:Int)),(4,AV.addr 4 0),(3,AV.addr 3 0),(2,AV.addr 2 0),(0,AV.agg (de g)),(1,AV.agg (aG e))],[(4,⟨1,false,true,[ai 0,dY,ai 0,AV.nil,AV.nil]⟩),(3,⟨1,false,true,(aG e)⟩),(2,⟨1,false,true,de G⟩)]⟩:AS)) (fun x=>(E=0)) bC ?_ ?_)
 ·by_cases k1:e.kind=1
  ·have ce:gT g e=if 0≤cT g.aq e.name then 10 else if 8≤g.aq.length then 12 else 0:=if_pos k1
   by_cases c1:0≤cT g.aq e.name
   ·rw [if_pos c1] at ce
    have cg:cw g e=g:=if_pos ag
    rw [Ce] at ce;rw [uf] at cg
    subst ce cg
    refine zq<|zB 0<|zP 1 [{}] [.aa [48,20,7,6,5,4,3,2,0,1] [4,3,2]] []<|du 48 (e.kind == (1:Int)) fh<|zS<|zB 1<|zP 1 [{}] [.aa [50,48,20,7,6,5,4,3,2,0,1] [4,3,2]] []<|gX 50 (cT G.aq e.name≥0)<|zP 1 [{}] [.aa [5,50,48,20,7,6,4,3,2,0,1] [4,3,2]] [yL 5 5]<|zR<|ba<|aI<|ba<|aI (bL)
   by_cases c2:8≤g.aq.length
   ·rw [if_neg c1,if_pos c2] at ce
    have cg:cw g e=g:=if_pos ag
    rw [Ce] at ce;rw [uf] at cg
    subst ce cg
    refine zq<|zB 0<|zP 1 [{}] [.aa [48,20,7,6,5,4,3,2,0,1] [4,3,2]] []<|du 48 (e.kind == (1:Int)) fh<|zS<|zB 1<|zP 1 [{}] [.aa [50,48,20,7,6,5,4,3,2,0,1] [4,3,2]] []<|dm 50 (cT G.aq e.name≥0)<|zP 1 [{}] [.aa [54,50,48,20,7,6,5,4,3,2,0,1] [4,3,2]] []<|gX 54 ((↑G.aq.length:Int)≥8)<|zP 1 [{}] [.aa [5,54,50,48,20,7,6,4,3,2,0,1] [4,3,2]] [yL 5 5]<|zR<|ba<|aI<|ba<|aI (bL)
   rw [if_neg c1,if_neg c2] at ce
   have s1:ae aN g.aq++aN ⟨e.name,e.kh,e.kr,0⟩=ae aN (g.aq++ [⟨e.name,e.kh,e.kr,0⟩]):=fS _ _
   by_cases c3:2*g.bm≤g.aq.length+1
   ·have cg:cw g e=⟨g.aC,g.head,g.bm+1,g.aq++ [⟨e.name,e.kh,e.kr,0⟩],g.aR⟩:=by unfold cw;rw [if_neg ag,if_pos k1,if_pos c3]
    rw [Ce] at ce;rw [uf] at cg
    subst ce cg
    refine zq<|zB 0<|zP 1 [{}] [.aa [48,20,7,6,5,4,3,2,0,1] [4,3,2]] []<|du 48 (e.kind == (1:Int)) fh<|zS<|zB 1<|zP 1 [{}] [.aa [50,48,20,7,6,5,4,3,2,0,1] [4,3,2]] []<|dm 50 (cT g.aq e.name≥0)<|zP 1 [{}] [.aa [54,50,48,20,7,6,5,4,3,2,0,1] [4,3,2]] []<|dm 54 ((↑g.aq.length:Int)≥8)<|zK<|aK<|al<|zS<|zP 1 [yH [(2,yV (ai ((2:Int)*g.bm))),(4,yV (ai ((↑g.aq.length:Int)+1)))]] [.aa [63,54,50,48,20,7,6,5,4,3,2,0,1] [4,3,2]] [yN ((2:Int)*g.bm),yN ((↑g.aq.length:Int)+1)]<|gX 63 ((2:Int)*g.bm≤(↑g.aq.length:Int)+1)<|zX (yH [(2,yV (ai (g.bm+1)))]) [yN (g.bm+1),yL 3 5]<|al<|yw 9 [2] [(2,{b:=false}),(9,yV (AV.arr (ae aN (g.aq++ [Mem.mk e.name e.kh e.kr 0]))))] [yB (cC (ae aN g.aq)) (dJ (fun x=>dQ rfl) _),yO ((0+(ae aN g.aq).length)*40≤562949953421312),yR (AV.addr 3 3),yR (di e.name),yR (AV.addr 3 4),yR (AV.agg [ai e.kh,aw e.kr]),yR (AV.agg [di e.name,ai e.kh,aw e.kr,dY]),yR (AV.sl 4 [di e.name,ai e.kh,aw e.kr,dY]),yI s1,yO (((ae aN g.aq).length+4)*40≤562949953421312),yL 4 5]<|aK<|al (⟨(),rfl,(zW [.gM 77,.aa [7,6,4,3,2,0,1] [4,3,2]])⟩)
   ·have cg:cw g e=⟨g.aC,g.head,g.bm,g.aq++ [⟨e.name,e.kh,e.kr,0⟩],g.aR⟩:=by unfold cw;rw [if_neg ag,if_pos k1,if_neg c3]
    rw [Ce] at ce;rw [uf] at cg
    subst ce cg
    refine zq<|zB 0<|zP 1 [{}] [.aa [48,20,7,6,5,4,3,2,0,1] [4,3,2]] []<|du 48 (e.kind == (1:Int)) fh<|zS<|zB 1<|zP 1 [{}] [.aa [50,48,20,7,6,5,4,3,2,0,1] [4,3,2]] []<|dm 50 (cT g.aq e.name≥0)<|zP 1 [{}] [.aa [54,50,48,20,7,6,5,4,3,2,0,1] [4,3,2]] []<|dm 54 ((↑g.aq.length:Int)≥8)<|zK<|aK<|al<|zS<|zP 1 [yH [(2,yV (ai ((2:Int)*g.bm))),(4,yV (ai ((↑g.aq.length:Int)+1)))]] [.aa [63,54,50,48,20,7,6,5,4,3,2,0,1] [4,3,2]] [yN ((2:Int)*g.bm),yN ((↑g.aq.length:Int)+1)]<|dm 63 ((2:Int)*g.bm≤(↑g.aq.length:Int)+1)<|a6<|yw 9 [2] [(2,{b:=false}),(9,yV (AV.arr (ae aN (g.aq++ [Mem.mk e.name e.kh e.kr 0]))))] [yB (cC (ae aN g.aq)) (dJ (fun x=>dQ rfl) _),yO ((0+(ae aN g.aq).length)*40≤562949953421312),yR (AV.addr 3 3),yR (di e.name),yR (AV.addr 3 4),yR (AV.agg [ai e.kh,aw e.kr]),yR (AV.agg [di e.name,ai e.kh,aw e.kr,dY]),yR (AV.sl 4 [di e.name,ai e.kh,aw e.kr,dY]),yI s1,yO (((ae aN g.aq).length+4)*40≤562949953421312),yL 4 5]<|aK<|al (⟨(),rfl,(zW [.gM 77,.aa [7,6,4,3,2,0,1] [4,3,2]])⟩)
  by_cases k2:e.kind=2
  ·have ce:gT g e=if cT g.aq e.name<0 then 11 else if (g.aq.length:Int)-1<g.bm then 41 else 0:=by unfold gT;rw [if_neg k1,if_pos k2]
   rcases eN g.aq e.name with hk|⟨k,hk,gV,JT⟩
   ·rw [if_pos ag] at ce
    have cg:cw g e=g:=if_pos ag
    rw [Ce] at ce;rw [uf] at cg
    subst ce cg
    rw [hk] at jL
    refine zq<|zB 0<|zP 1 [{}] [.aa [48,20,7,6,5,4,3,2,0,1] [4,3,2]] []<|bj 48 (e.kind == (1:Int)) bx<|zq<|du 79 (e.kind == (2:Int)) fh<|zS<|zP 1 [{}] [.aa [82,79,48,20,7,6,5,4,3,2,0,1] [4,3,2]] []<|gX 82 (cT G.aq e.name<0)<|zP 1 [{}] [.aa [5,82,79,48,20,7,6,4,3,2,0,1] [4,3,2]] [yL 5 5]<|dk<|ba<|aI (bL)
   rw [if_neg ag] at ce
   rw [hk] at jL
   have o9:AV.val (.int .i64 (cT g.aq e.name))=ai k:=by rw [hk]
   by_cases c2:(g.aq.length:Int)-1<g.bm
   ·rw [if_pos c2] at ce
    have cg:cw g e=g:=if_pos ag
    rw [Ce] at ce;rw [uf] at cg
    subst ce cg
    refine zq<|zB 0<|zP 1 [{}] [.aa [48,20,7,6,5,4,3,2,0,1] [4,3,2]] []<|bj 48 (e.kind == (1:Int)) bx<|zq<|du 79 (e.kind == (2:Int)) fh<|zS<|zP 1 [{}] [.aa [82,79,48,20,7,6,5,4,3,2,0,1] [4,3,2]] []<|dm 82 (cT G.aq e.name<0)<|a6<|zS<|zP 1 [yH [(3,yV (ai ((↑G.aq.length:Int)-1)))]] [.aa [88,82,79,48,20,7,6,5,4,3,2,0,1] [4,3,2]] [yN ((↑G.aq.length:Int)-1)]<|gX 88 (G.bm>(↑G.aq.length:Int)-1)<|zP 1 [{}] [.aa [5,88,82,79,48,20,7,6,4,3,2,0,1] [4,3,2]] [yL 5 5]<|dk<|ba<|aI (bL)
   rw [if_neg c2] at ce
   have cg:cw g e=⟨g.aC,g.head,g.bm,ke g.aq k,g.aR⟩:=by unfold cw;rw [if_neg ag,if_neg k1,if_pos k2,hk];rfl
   rw [Ce] at ce;rw [uf] at cg
   subst ce cg
   have s1:=MP g.aq k
   have pv:cC (ae aN g.aq):=dJ (fun x=>dQ rfl) _
   have Rc:cC ((ae aN g.aq).take (k*4)):=fun x hx=>pv x (List.mem_of_mem_take hx)
   have P3:cC ((ae aN g.aq).drop ((k+1)*4)):=fun x hx=>pv x (List.mem_of_mem_drop hx)
   refine zq<|zB 0<|zP 1 [{}] [.aa [48,20,7,6,5,4,3,2,0,1] [4,3,2]] []<|bj 48 (e.kind == (1:Int)) bx<|zq<|du 79 (e.kind == (2:Int)) fh<|zS<|zP 1 [{}] [.aa [82,79,48,20,7,6,5,4,3,2,0,1] [4,3,2]] []<|dm 82 (cT g.aq e.name<0)<|a6<|zS<|zP 1 [yH [(3,yV (ai ((↑g.aq.length:Int)-1)))]] [.aa [88,82,79,48,20,7,6,5,4,3,2,0,1] [4,3,2]] [yN ((↑g.aq.length:Int)-1)]<|dm 88 (g.bm>(↑g.aq.length:Int)-1)<|a6<|yw 10 [4] [(2,yV (ai ↑k)),(3,{m:=k}),(4,{b:=false}),(8,yV (ai (↑(k+1):Int))),(9,{k:=k+1}),(10,{av:=some (AV.arr (ae aN (ke g.aq k))),b:=false})] [yI o9,yR (↑k:Int),yO (k*4≤(ae aN g.aq).length),yB (ai (IntKind.i64.wrap (cT g.aq e.name+1))=ai (↑(k+1):Int)) (congrArg (fun n=>AV.val (.int .i64 n)) (by rw [IntKind.wrap_i64];omega)),yR (↑(k+1):Int),yO ((k+1)*4≤(ae aN g.aq).length),yI Rc,yB ((0+(List.take (k*4) (ae aN g.aq)).length)*40≤562949953421312) (by simp only [List.length_take];omega),yR (AV.addr 2 3),yR (AV.sl 4 (ae aN g.aq)),yR (ai (cT g.aq e.name)),yR (ai (↑(k+1):Int)),yB (ai (IntKind.i64.wrap (cT g.aq e.name+1))=ai (↑(k+1):Int)) (congrArg (fun n=>AV.val (.int .i64 n)) (by rw [IntKind.wrap_i64];omega)),yR (AV.sl 4 (List.drop ((k+1)*4) (ae aN g.aq))),yR (↑(k+1):Int),yO ((k+1)*4≤(ae aN g.aq).length),yI s1,yI P3,yB (((List.take (k*4) (ae aN g.aq)).length+(List.drop ((k+1)*4) (ae aN g.aq)).length)*40≤562949953421312) (by simp only [List.length_take,List.length_drop];omega),yL 4 5]<|aK<|al (⟨(),rfl,(zW [.gM 100,.aa [7,6,4,3,2,0,1] [4,3,2]])⟩)
  by_cases k3:e.kind=3
  ·obtain ⟨t1,t2⟩:=ht k3
   have ce:gT g e=if (g.aq.length:Int)<e.bm∨2*e.bm≤g.aq.length then 41 else 0:=by unfold gT;rw [if_neg k1,if_neg k2,if_pos k3]
   by_cases c1:(g.aq.length:Int)<e.bm
   ·rw [if_pos (.inl c1)] at ce
    have cg:cw g e=g:=if_pos ag
    rw [Ce] at ce;rw [uf] at cg
    subst ce cg
    refine zq<|zB 0<|zP 1 [{}] [.aa [48,20,7,6,5,4,3,2,0,1] [4,3,2]] []<|bj 48 (e.kind == (1:Int)) bx<|zq<|bj 79 (e.kind == (2:Int)) bx<|zP 1 [{}] [.aa [102,79,48,20,7,6,5,4,3,2,0,1] [4,3,2]] []<|du 102 (e.kind == (3:Int)) fh<|zS<|zP 1 [{}] [.aa [114,102,79,48,20,7,6,5,4,3,2,0,1] [4,3,2]] (yM 6 (yT (e.bm>(↑G.aq.length:Int))))<|zT 114<|zP 1 [{}] [.aa [5,114,102,79,48,20,7,6,4,3,2,0,1] [4,3,2]] [yL 5 5]<|dk<|ba<|aI (bL)
   by_cases c2:2*e.bm≤g.aq.length
   ·rw [if_pos (.inr c2)] at ce
    have cg:cw g e=g:=if_pos ag
    rw [Ce] at ce;rw [uf] at cg
    subst ce cg
    refine zq<|zB 0<|zP 1 [{}] [.aa [48,20,7,6,5,4,3,2,0,1] [4,3,2]] []<|bj 48 (e.kind == (1:Int)) bx<|zq<|bj 79 (e.kind == (2:Int)) bx<|zP 1 [{}] [.aa [102,79,48,20,7,6,5,4,3,2,0,1] [4,3,2]] []<|du 102 (e.kind == (3:Int)) fh<|zS<|zP 1 [yH ([(7,{av:=some (ai ((2:Int)*e.bm)),g:=false}),(10,{b:=false})]++yg [5,6,8,9])] [.aa [114,102,79,48,20,7,6,5,4,3,2,0,1] [4,3,2]] (yM 3 (yF (e.bm>(↑G.aq.length:Int)))++ [yN ((2:Int)*e.bm)]++yM 3 (yF (e.bm>(↑G.aq.length:Int))))<|gX 114 ((2:Int)*e.bm≤(↑G.aq.length:Int))<|zP 1 [{}] [.aa [5,114,102,79,48,20,7,6,4,3,2,0,1] [4,3,2]] [yL 5 5]<|dk<|ba<|aI (bL)
   rw [if_neg ag] at ce
   have cg:cw g e=⟨g.aC,g.head,e.bm,g.aq,g.aR⟩:=by unfold cw;rw [if_neg ag,if_neg k1,if_neg k2,if_pos k3]
   rw [Ce] at ce;rw [uf] at cg
   subst ce cg
   refine zq<|zB 0<|zP 1 [{}] [.aa [48,20,7,6,5,4,3,2,0,1] [4,3,2]] []<|bj 48 (e.kind == (1:Int)) bx<|zq<|bj 79 (e.kind == (2:Int)) bx<|zP 1 [{}] [.aa [102,79,48,20,7,6,5,4,3,2,0,1] [4,3,2]] []<|du 102 (e.kind == (3:Int)) fh<|zS<|zP 1 [yH ([(7,{av:=some (ai ((2:Int)*e.bm)),g:=false}),(10,{b:=false})]++yg [5,6,8,9])] [.aa [114,102,79,48,20,7,6,5,4,3,2,0,1] [4,3,2]] (yM 3 (yF (e.bm>(↑g.aq.length:Int)))++ [yN ((2:Int)*e.bm)]++yM 3 (yF (e.bm>(↑g.aq.length:Int))))<|dm 114 ((2:Int)*e.bm≤(↑g.aq.length:Int))<|a6<|zX {} [yL 3 5]<|aK<|al (⟨(),rfl,(zW [.aa [7,6,4,3,2,0,1] [4,3,2]])⟩)
  by_cases k4:e.kind=4
  ·have ce:gT g e=if 8≤g.aR.length then 12 else if ug g.aR e.dep.cm<g.aR.length then 10 else ff (tO g e.dep.af) e.dep.af.length:=by unfold gT;rw [if_neg k1,if_neg k2,if_neg k3,if_pos k4]
   by_cases c1:8≤g.aR.length
   ·rw [if_pos c1] at ce
    have cg:cw g e=g:=if_pos ag
    rw [Ce] at ce;rw [uf] at cg
    subst ce cg
    refine zq<|zB 0<|zP 1 [{}] [.aa [48,20,7,6,5,4,3,2,0,1] [4,3,2]] []<|bj 48 (e.kind == (1:Int)) bx<|zq<|bj 79 (e.kind == (2:Int)) bx<|zP 1 [{}] [.aa [102,79,48,20,7,6,5,4,3,2,0,1] [4,3,2]] []<|bj 102 (e.kind == (3:Int)) bx<|zq<|du 119 (e.kind == (4:Int)) fh<|zS<|zP 1 [yH [(2,{k:=G.aR.length})]] [.aa [124,119,102,79,48,20,7,6,5,4,3,2,0,1] [4,3,2]] [yI ud]<|gX 124 ((↑G.aR.length:Int)≥8)<|zP 1 [{}] [.aa [5,124,119,102,79,48,20,7,6,4,3,2,0,1] [4,3,2]] [yL 5 5]<|dk<|ba<|aI (bL)
   rw [if_neg c1] at ce
   rcases oO g.aR e.dep.cm with ⟨hf,hk⟩|⟨k,hf,hk,gV⟩
   case inr =>
    rw [if_pos ag] at ce
    have cg:cw g e=g:=if_pos ag
    rw [Ce] at ce;rw [uf] at cg
    subst ce cg
    rw [hk] at wX
    refine zq<|zB 0<|zP 1 [{}] [.aa [48,20,7,6,5,4,3,2,0,1] [4,3,2]] []<|bj 48 (e.kind == (1:Int)) bx<|zq<|bj 79 (e.kind == (2:Int)) bx<|zP 1 [{}] [.aa [102,79,48,20,7,6,5,4,3,2,0,1] [4,3,2]] []<|bj 102 (e.kind == (3:Int)) bx<|zq<|du 119 (e.kind == (4:Int)) fh<|zS<|zP 1 [yH [(2,{k:=G.aR.length})]] [.aa [124,119,102,79,48,20,7,6,5,4,3,2,0,1] [4,3,2]] [yI ud]<|dm 124 ((↑G.aR.length:Int)≥8)<|a6<|zS<|zP 1 [yH [(5,yC wX)]] [.aa [132,124,119,102,79,48,20,7,6,5,4,3,2,0,1] [4,3,2]] [yI wX]<|gX 132 ((↑k:Int)≥0)<|zP 1 [{}] [.aa [5,132,124,119,102,79,48,20,7,6,4,3,2,0,1] [4,3,2]] [yL 5 5]<|dk<|ba<|aI (bL)
   rw [if_neg ag] at ce
   rw [hk] at wX
   have Ss:(ae au e.dep.af).length=e.dep.af.length:=by rw [aA (e:=1) (fun _=>rfl)];omega
   refine zq<|zB 0<|zP 1 [{}] [.aa [48,20,7,6,5,4,3,2,0,1] [4,3,2]] []<|bj 48 (e.kind == (1:Int)) bx<|zq<|bj 79 (e.kind == (2:Int)) bx<|zP 1 [{}] [.aa [102,79,48,20,7,6,5,4,3,2,0,1] [4,3,2]] []<|bj 102 (e.kind == (3:Int)) bx<|zq<|du 119 (e.kind == (4:Int)) fh<|zS<|zP 1 [yH [(2,{k:=g.aR.length})]] [.aa [124,119,102,79,48,20,7,6,5,4,3,2,0,1] [4,3,2]] [yI ud]<|dm 124 ((↑g.aR.length:Int)≥8)<|a6<|zS<|zP 1 [yH [(5,yC wX)]] [.aa [132,124,119,102,79,48,20,7,6,5,4,3,2,0,1] [4,3,2]] [yI wX]<|dm 132 ((-1:Int)≥0)<|a6<|zS<|zq<|zB 2 (zL (fun (i:Nat)=>(⟨[(132,ao (decide ((-1:Int)≥0))),(124,ao (decide ((↑g.aR.length:Int)≥8))),(119,ao (e.kind == (4:Int))),(102,ao (e.kind == (3:Int))),(79,ao (e.kind == (2:Int))),(48,ao (e.kind == (1:Int))),(20,ai e.kind),(7,ai (cT g.aq e.name)),(6,ai (↑g.aq.length:Int)),(4,AV.addr 4 0),(3,AV.addr 3 0),(2,AV.addr 2 0),(0,AV.agg (de g)),(1,AV.agg (aG e)),(8,ai i)],[(4,⟨1,false,true,[ai 0,dY,ai 0,AV.nil,AV.nil]⟩),(3,⟨1,false,true,(aG e)⟩),(2,⟨1,false,true,List.map (aH 4) (List.map (aH 3) (List.map (aH 2) (de g)))⟩)]⟩:AS)) (fun i=>(i≤e.dep.af.length∧ff (tO g e.dep.af) i=0)) (fun i=>(e.dep.af.length-i)) (0) ?_ (zW [.aa [132,124,119,102,79,48,20,7,6,4,3,2,0,1,8] [4,3,2]]) ?_)
   ·exact ⟨ag,rfl⟩
   rintro i ⟨hi,h0⟩
   refine zS<|zP 1 [yH [(4,{k:=(ae au e.dep.af).length})]] [.aa [139,132,124,119,102,79,48,20,7,6,4,3,2,0,1,8] [4,3,2]] [yR ((ae au e.dep.af).length)] (zD 139 ((↑i:Int)<(↑(ae au e.dep.af).length:Int)) (fun q=>?_) (fun q=>?_))
   ·have dc:i<e.dep.af.length:=ag
    have ic:=iZ dc
    have xX:=mM g.aq (e.dep.af.getD i default) ag
    rcases eN g.aq (e.dep.af.getD i default) with hm|⟨k,hm,Ty,-⟩
    ·have hs:tO g e.dep.af i=11:=if_pos ag
     have Sf:ff (tO g e.dep.af) (i+1)=11:=by show (if _ then _ else _)=_;rw [if_neg ag,hs]
     rw [kz ag Sf _ dc] at ce
     have cg:cw g e=g:=if_pos ag
     rw [Ce] at ce;rw [uf] at cg
     subst ce cg
     rw [hm] at xX
     refine a6<|zS<|zB 3<|zP 1 [{hs:=[(6,{k:=i}),(7,yV (di (e.dep.af.getD i default))),(8,yC xX)],T:=8}] [.aa [151,139,132,124,119,102,79,48,20,7,6,4,3,2,0,1,8] [4,3,2]] [yR (↑i:Int),yO (i<(ae au e.dep.af).length),yI ic,yI xX]<|gX 151 ((-1:Int)<0)<|zP 1 [{}] [.aa [5,151,139,132,124,119,102,79,48,20,7,6,4,3,2,0,1,8] [4,3,2]] [yL 5 5]<|zR<|ba<|aI<|dh<|ba<|aI<|ba<|aI (bL)
    ·have hs:tO g e.dep.af i=0:=if_neg ag
     rw [hm] at xX
     refine a6<|zS<|zB 3<|zP 1 [{hs:=[(6,{k:=i}),(7,yV (di (e.dep.af.getD i default))),(8,yC xX)],T:=8}] [.aa [151,139,132,124,119,102,79,48,20,7,6,4,3,2,0,1,8] [4,3,2]] [yR (↑i:Int),yO (i<(ae au e.dep.af).length),yI ic,yI xX]<|dm 151 ((↑k:Int)<0)<|zK<|aK<|al<|zX (yH [(1,yV (ai ((↑i:Int)+1)))]) [yN ((↑i:Int)+1)] (aF (i+1) ⟨ag,by show (if _ then _ else _)=_;rw [if_neg ag,hs]⟩ ag (zW [.aa [132,124,119,102,79,48,20,7,6,4,3,2,0,1,8] [4,3,2]]))
   ·have ei:i=e.dep.af.length:=ag
    subst ei
    rw [h0] at ce
    have cg:cw g e=⟨g.aC,g.head,g.bm,g.aq,g.aR++ [e.dep]⟩:=by unfold cw;rw [if_neg ag,if_neg k1,if_neg k2,if_neg k3,if_pos k4]
    rw [Ce] at ce;rw [uf] at cg
    subst ce cg
    have s1:ae bk g.aR++bk e.dep=ae bk (g.aR++ [e.dep]):=fS _ _
    refine zE 2<|a7<|aP<|bp<|al<|yw 6 [2] [(2,{b:=false}),(6,yV (AV.arr (ae bk (g.aR++ [e.dep]))))] [yB (cC (ae bk g.aR)) (dJ (fun x=>dQ rfl) _),yO ((0+(ae bk g.aR).length)*104≤985162418487296),yR (AV.addr 3 7),yR (AV.agg (bk e.dep)),yR (AV.sl 7 (bk e.dep)),yI s1,yO (((ae bk g.aR).length+7)*104≤985162418487296),yL 5 5]<|aK<|al (⟨(),rfl,(zW [.gM 159,.aa [7,6,4,3,2,0,1] [4,3,2]])⟩)
  have k5:e.kind=5:=ag
  have ce:gT g e=if ug g.aR e.cm=g.aR.length then 11 else if (g.aR.getD (ug g.aR e.cm) default).target≠0 then 18 else 0:=by unfold gT;rw [if_neg k1,if_neg k2,if_neg k3,if_neg k4]
  rcases oO g.aR e.cm with ⟨hf,hk⟩|⟨k,hf,hk,gV⟩
  ·rw [if_pos hf] at ce
   have cg:cw g e=g:=if_pos ag
   rw [Ce] at ce;rw [uf] at cg
   subst ce cg
   rw [hk] at B6
   refine zq<|zB 0<|zP 1 [{}] [.aa [48,20,7,6,5,4,3,2,0,1] [4,3,2]] []<|bj 48 (e.kind == (1:Int)) bx<|zq<|bj 79 (e.kind == (2:Int)) bx<|zP 1 [{}] [.aa [102,79,48,20,7,6,5,4,3,2,0,1] [4,3,2]] []<|bj 102 (e.kind == (3:Int)) bx<|zq<|bj 119 (e.kind == (4:Int)) bx<|zP 1 [yH [(4,yC B6)]] [.aa [9,119,102,79,48,20,7,6,5,4,3,2,0,1] [4,3,2]] [yI B6]<|zS<|zq<|gX 27 ((-1:Int)<0)<|zP 1 [{}] [.aa [5,27,9,119,102,79,48,20,7,6,4,3,2,0,1] [4,3,2]] [yL 5 5]<|dk<|ba<|aI (bL)
  rw [if_neg ag,hf] at ce
  rw [hk] at B6
  have ic:=Ar gV
  by_cases c1:(g.aR.getD k default).target=0
  case neg =>
   rw [if_pos c1] at ce
   have cg:cw g e=g:=if_pos ag
   rw [Ce] at ce;rw [uf] at cg
   subst ce cg
   refine zq<|zB 0<|zP 1 [{}] [.aa [48,20,7,6,5,4,3,2,0,1] [4,3,2]] []<|bj 48 (e.kind == (1:Int)) bx<|zq<|bj 79 (e.kind == (2:Int)) bx<|zP 1 [{}] [.aa [102,79,48,20,7,6,5,4,3,2,0,1] [4,3,2]] []<|bj 102 (e.kind == (3:Int)) bx<|zq<|bj 119 (e.kind == (4:Int)) bx<|zP 1 [yH [(4,yC B6)]] [.aa [9,119,102,79,48,20,7,6,5,4,3,2,0,1] [4,3,2]] [yI B6]<|zS<|zq<|dm 27 ((↑k:Int)<0)<|a6<|zS<|zP 1 [yH [(3,{k:=k}),(5,yV (aw ((G.aR.getD k default).target))),(6,yV (ao ((G.aR.getD k default).target != 0)))]] [.aa [35,27,9,119,102,79,48,20,7,6,5,4,3,2,0,1] [4,3,2]] [yR (↑k:Int),yO (k*7<(ae bk G.aR).length),yA bk G.aR k 6,yI (cK ((G.aR.getD k default).target) 0)]<|du 35 ((G.aR.getD k default).target != 0) (by simp_all)<|zP 1 [{}] [.aa [5,35,27,9,119,102,79,48,20,7,6,4,3,2,0,1] [4,3,2]] [yL 5 5]<|dk<|ba<|aI (bL)
  rw [if_neg (fun q=>q c1)] at ce
  have cg:cw g e=⟨g.aC,g.head,g.bm,g.aq,rO g.aR k e.target⟩:=by unfold cw;rw [if_neg ag,if_neg k1,if_neg k2,if_neg k3,if_neg k4,hf]
  rw [Ce] at ce;rw [uf] at cg
  subst ce cg
  have s1:=CE gV e.target
  refine zq<|zB 0<|zP 1 [{}] [.aa [48,20,7,6,5,4,3,2,0,1] [4,3,2]] []<|bj 48 (e.kind == (1:Int)) bx<|zq<|bj 79 (e.kind == (2:Int)) bx<|zP 1 [{}] [.aa [102,79,48,20,7,6,5,4,3,2,0,1] [4,3,2]] []<|bj 102 (e.kind == (3:Int)) bx<|zq<|bj 119 (e.kind == (4:Int)) bx<|zP 1 [yH [(4,yC B6)]] [.aa [9,119,102,79,48,20,7,6,5,4,3,2,0,1] [4,3,2]] [yI B6]<|zS<|zq<|dm 27 ((↑k:Int)<0)<|a6<|zS<|zP 1 [yH [(3,{k:=k}),(5,yV (aw ((g.aR.getD k default).target))),(6,yV (ao false))]] [.aa [35,27,9,119,102,79,48,20,7,6,5,4,3,2,0,1] [4,3,2]] [yR (↑k:Int),yO (k*7<(ae bk g.aR).length),yA bk g.aR k 6,yB (ao (wv (g.aR.getD k default).target != (0:Int))=ao false) (by rw [c1];rfl)]<|zF 35<|a6<|zP 2 [yH [(2,{b:=false})],yH [(4,{k:=k}),(6,yV (AV.arr (ae bk (rO g.aR k e.target))))]] [.aa [41,10,35,27,9,119,102,79,48,20,7,6,5,4,3,2,0,1] [39,4,3,2]] [yB (cC (ae bk g.aR)) (dJ (fun x=>dQ rfl) _),yO ((0+(ae bk g.aR).length)*104≤985162418487296),yR (↑k:Int),yO (k*7<(ae bk g.aR).length),yI s1,yO (k*7+6+1≤(ae bk g.aR).length)]<|zX {} [yL 5 5]<|aK<|al (⟨(),rfl,(zW [.gM 39,.aa [7,6,4,3,2,0,1] [4,3,2]])⟩)
 ·intro x hx
  subst hx
  refine zP 1 [{}] [.aa [5,7,6,4,3,2,0,1] [4,3,2]] [yL 5 5]<|zR (bL)
end Go.Proofs.YtjgbhhnghedgdaaGreatDoor
