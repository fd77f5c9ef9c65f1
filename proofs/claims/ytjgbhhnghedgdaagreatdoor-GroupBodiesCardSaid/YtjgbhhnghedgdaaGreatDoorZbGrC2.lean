import Derived.Test.YtjgbhhnghedgdaaGreatDoorZbGrC1
import Derived.Test.YtjgbhhnghedgdaaGreatDoorZbGrR3
set_option linter.all false
namespace Go.Proofs.YtjgbhhnghedgdaaGreatDoor
open Go.RowKit
set_option maxRecDepth 100000
set_option maxHeartbeats 4000000
theorem wE {l:List Mem} {k:Nat} (hk:k<l.length) (u:UInt64):(ae aF l).set (k*4+3) (aw u)=ae aF (l.set k {l.getD k default with used:=u}):=by
 induction l generalizing k with
 | nil=>cases hk
 | cons m l ih =>
  cases k with
  | zero=>rfl
  | succ k =>
   have:=ih (k:=k) (by simpa using hk)
   rw [show (k+1)*4+3=k*4+3+4 by omega]
   show aF m++(ae aF l).set (k*4+3) (aw u)=aF m++ae aF (l.set k {l.getD k default with used:=u})
   rw [this]
theorem GN (l:List Mem) (v:gl):(pH l v).length=l.length:=by unfold pH;split<;>simp
theorem ng (vs:List gl):∀l:List Mem,(j9 l vs).length=l.length:=by
 induction vs with
 | nil=>intro l;rfl
 | cons v vs ih=>intro l;show (j9 (pH l v) vs).length=_;rw [ih,GN]
theorem vV (l:List Mem) {V:List gl} {i:Nat} (h:i<V.length):j9 l (V.take (i+1))=pH (j9 l (V.take i)) (V.getD i default):=by
 unfold j9
 rw [List.take_add_one,List.foldl_append,List.getD_eq_getElem?_getD,List.getElem?_eq_getElem h];rfl
theorem vR {g:gX} {w:UInt64} {V:List gl} (h:fA g w V=0) {i:Nat} (hi:i<V.length):0≤(V.getD i default).leaf∧(V.getD i default).leaf<16:=by
 have h0:ff (jW g w V) V.length=0:=by
  apply Classical.byContradiction;intro q
  unfold fA at h;rw [if_pos q] at h;exact q h
 have h1:jW g w V i=0:=x7 h0 i hi
 unfold jW at h1
 split at h1
 ·omega
 split at h1
 ·omega
 split at h1
 ·rename_i q;exact absurd h1 q
 ·rename_i q;exact tC (Classical.not_not.1 q)
theorem Bi (g:gX) (e:eP):(cS g e).al.length≤g.al.length+1:=by
 unfold cS pn
 split
 ·omega
 split
 ·simp
 split
 ·simp only [List.length_append,List.length_take,List.length_drop];omega
 split
 ·simp
 split<;>simp
theorem qc {e:eP} (h:eu e=0):1≤e.kind∧e.kind≤5∧1≤e.aB∧e.aB≤2147483647∧fa e=0∧fi e:=by
 unfold eu at h
 by_cases k1:e.kind<1∨5<e.kind
 ·rw [if_pos k1] at h;omega
 rw [if_neg k1] at h
 by_cases c1:¬fi e
 ·rw [if_pos c1] at h;omega
 rw [if_neg c1] at h
 by_cases q1:e.aB<1∨2147483647<e.aB
 ·rw [if_pos q1] at h;omega
 rw [if_neg q1] at h
 exact ⟨aj,aj,aj,aj,h,Classical.not_not.1 c1⟩
theorem xV {e:eP} (h:eu e=0) (k3:e.kind=3):1≤e.bA∧e.bA≤8:=by
 have hf:=(qc h).2.2.2.2.1
 unfold fa at hf
 rw [if_neg aj,if_neg aj,if_pos k3] at hf
 apply Classical.byContradiction;intro q
 rw [if_pos aj] at hf;omega
theorem xq (g:gX) (e:eP) (hG:qD g) (hB:mO e) (hv:e.ak.length≤1000000) (m_:bL Tryz.prog 40 [.agg (a7 e)] (.bt [.own 1 (ag (fo e)),ai (eu e)])):bL Tryz.prog 31 [.agg (bQ g),.agg (a7 e)] (.bt [.agg (bQ (i_ g e)),ai (fX g e)]):=by
 have xN:(ae aP e.ak).length=e.ak.length*4:=aG (e:=4) (fun _=>rfl) ..
 by_cases cb:eu e=0
 case neg =>
  have ce:fX g e=eu e:=if_pos cb
  have cg:i_ g e=g:=if_pos (by rw [ce];exact cb)
  rw [ce,cg]
  refine zO Tryz.func31 103<|zP 2 [{},yH [(1,yV (AV.bt [AV.own 1 (ag (fo e)),ai (eu e)]))]] [.aa [7,6,5,4,3,2,0,1] [1015,4,3,2]] [yI m_,yI (aR (fo e))]<|zS<|zQ 1 [yH [(1,yV (ao true))]] [yB (ao (eu e != (0:Int))=ao true) (by simp [cb])]<|zT 19<|zP 1 [{}] [.aa [5,19,7,6,4,3,2,0,1] [4,1015,3,2]] [yL 5 5]<|dn (bR)
 have pD:=qd e cb
 obtain ⟨k1,k5,QP,Sy,sG,Tb⟩:=qc cb
 have hw:IntKind.i64.wrap (g.aB+1)=g.aB+1:=by have:=hG.Vv;have:=hG.QP;rw [IntKind.wrap_i64];omega
 rw [cb] at m_
 by_cases c1:e.aB≠g.aB+1
 ·have ce:fX g e=42:=by unfold fX;rw [if_neg (fun q=>q cb),if_pos (.inl c1)]
  have cg:i_ g e=g:=if_pos aj
  rw [ce,cg]
  have vm:(e.aB != g.aB+1)=true:=bne_iff_ne.2 c1
  refine zO Tryz.func31 103<|zP 2 [{},yH [(1,yV (AV.bt [AV.own 1 (ag (fo e)),ai 0]))]] [.aa [7,6,5,4,3,2,0,1] [1015,4,3,2]] [yI m_,yI (aR (fo e))]<|zS<|zq<|zF 19<|a_<|zS<|zP 1 [yH [(4,yV (ai (g.aB+1)))]] [.aa [34,19,7,6,5,4,3,2,0,1] [1015,4,3,2]] ([yB (ai (IntKind.i64.wrap (g.aB+1))=ai (g.aB+1)) (congrArg (fun n=>AV.val (.int .i64 n)) hw)]++yM 6 (yI vm))<|zT 34<|zP 1 [{}] [.aa [5,34,19,7,6,4,3,2,0,1] [4,1015,3,2]] [yL 5 5]<|dn (bR)
 have Oy:e.aB=g.aB+1:=aj
 have vm:(e.aB != g.aB+1)=false:=by rw [Oy];simp
 by_cases c2:e.prev=g.head
 case neg =>
  have ce:fX g e=42:=by unfold fX;rw [if_neg (fun q=>q cb),if_pos (.inr c2)]
  have cg:i_ g e=g:=if_pos aj
  rw [ce,cg]
  have SB:(e.prev != g.head)=true:=bne_iff_ne.2 c2
  refine zO Tryz.func31 103<|zP 2 [{},yH [(1,yV (AV.bt [AV.own 1 (ag (fo e)),ai 0]))]] [.aa [7,6,5,4,3,2,0,1] [1015,4,3,2]] [yI m_,yI (aR (fo e))]<|zS<|zq<|zF 19<|a_<|zS<|zP 1 [yH ([(4,yV (ai (g.aB+1))),(11,{av:=some (ao (e.prev != g.head)),g:=false}),(12,{b:=false})]++yg [7,8,9,10])] [.aa [34,19,7,6,5,4,3,2,0,1] [1015,4,3,2]] ([yN (g.aB+1)]++yM 5 (yI vm)++ [yI (cN e.prev g.head),yI vm])<|dB 34 (e.prev != g.head) (by assumption)<|zP 1 [{}] [.aa [5,34,19,7,6,4,3,2,0,1] [4,1015,3,2]] [yL 5 5]<|dn (bR)
 have SB:(e.prev != g.head)=false:=by rw [c2];simp
 have Gf:fX g e=if fA g (df e) e.ak≠0 then fA g (df e) e.ak else gK g e:=by unfold fX;rw [if_neg (fun q=>q cb),if_neg (by rintro (q|q);exact q Oy;exact q c2)]
 have KL:=oG (fo e) aj
 rw [show hash 16 (fo e)=df e from rfl] at KL
 have m8:=hG.m8
 have Bv:=xj g (df e) e.ak aj hv
 by_cases c3:fA g (df e) e.ak=0
 case neg =>
  rw [if_pos c3] at Gf
  have cg:i_ g e=g:=if_pos (by rw [Gf];exact c3)
  rw [Gf,cg]
  refine zO Tryz.func31 103<|zP 2 [{},yH [(1,yV (AV.bt [AV.own 1 (ag (fo e)),ai 0]))]] [.aa [7,6,5,4,3,2,0,1] [1015,4,3,2]] [yI m_,yI (aR (fo e))]<|zS<|zQ 1 [yH [(1,yV (ao false))]] [yR (ao false)]<|zF 19<|a_<|zS<|zP 1 [yH ([(4,yV (ai (g.aB+1))),(11,{av:=some (ao (e.prev != g.head)),g:=false}),(12,{b:=false})]++yg [7,8,9,10])] [.aa [34,19,7,6,5,4,3,2,0,1] [1015,4,3,2]] ([yN (g.aB+1)]++yM 5 (yI vm)++ [yI (cN e.prev g.head),yI vm])<|bn 34 (e.prev != g.head) (by assumption)<|a_<|zS<|zP 2 [{hs:=[(4,yV (aw (df e))),(5,yV (ai (fA g (df e) e.ak)))],T:=5},yH [(1,yV (ao true))]] [.aa [43,8,41,34,19,7,6,5,4,3,2,0,1] [1015,4,3,2]] [yI KL,yI Bv,yB (ao (fA g (df e) e.ak != (0:Int))=ao true) (by simp [c3])]<|zT 43<|zP 1 [{}] [.aa [5,43,8,41,34,19,7,6,4,3,2,0,1] [4,1015,3,2]] [yL 5 5]<|dn (bR)
 have KO:=fun i hi=>vR c3 (i:=i) hi
 rw [if_neg (fun q=>q c3)] at Gf
 rw [c3] at Bv
 have vJ:=vB g e hG k1 k5 (xV cb) (by have:=hB.dep.AB;omega)
 rw [←Gf] at vJ
 by_cases c4:fX g e=0
 case neg =>
  have cg:i_ g e=g:=if_pos c4
  rw [cg]
  refine zO Tryz.func31 103<|zP 2 [{},yH [(1,yV (AV.bt [AV.own 1 (ag (fo e)),ai 0]))]] [.aa [7,6,5,4,3,2,0,1] [1015,4,3,2]] [yI m_,yI (aR (fo e))]<|zS<|zQ 1 [yH [(1,yV (ao false))]] [yR (ao false)]<|zF 19<|a_<|zS<|zP 1 [yH ([(4,yV (ai (g.aB+1))),(11,{av:=some (ao (e.prev != g.head)),g:=false}),(12,{b:=false})]++yg [7,8,9,10])] [.aa [34,19,7,6,5,4,3,2,0,1] [1015,4,3,2]] ([yN (g.aB+1)]++yM 5 (yI vm)++ [yI (cN e.prev g.head),yI vm])<|bn 34 (e.prev != g.head) (by assumption)<|a_<|zS<|zP 2 [{hs:=[(4,yV (aw (df e))),(5,yV (ai 0))],T:=5},yH [(1,yV (ao false))]] [.aa [43,8,41,34,19,7,6,5,4,3,2,0,1] [1015,4,3,2]] [yI KL,yI Bv,yR (ao false)]<|zF 43<|a_<|zP 1 [yH [(2,{av:=some (AV.bt [AV.agg (bQ (cS g e)),ai (fX g e)]),b:=false})]] [.aa [7,9,43,8,41,34,19,6,5,4,3,2,0,1] [9,1015,4,3,2]] [yI vJ,yL 5 5]<|zS<|zQ 1 [yH [(1,yV (ao true))]] [yB (ao (fX g e != (0:Int))=ao true) (by simp [c4])]<|zT 53<|zP 1 [{}] [.aa [5,53,7,9,43,8,41,34,19,6,4,3,2,0,1] [4,9,1015,3,2]] [yL 5 5]<|dn (bR)
 have cg:i_ g e=⟨e.aB,df e,(cS g e).bA,j9 (cS g e).al e.ak,(cS g e).aO⟩:=if_neg (fun q=>q c4)
 rw [cg,c4]
 rw [c4] at vJ
 have gm:=Bi g e
 generalize cS g e=G at *
 have m7:∀i,(ae aF (j9 G.al (e.ak.take i))).length=G.al.length*4:=fun i=>by rw [aG (e:=4) (fun _=>rfl),ng]
 clear Gf cg
 refine zO Tryz.func31 103<|zP 2 [{},yH [(1,yV (AV.bt [AV.own 1 (ag (fo e)),ai 0]))]] [.aa [7,6,5,4,3,2,0,1] [1015,4,3,2]] [yI m_,yI (aR (fo e))]<|zS<|zq<|zF 19<|a_<|zS<|zP 1 [yH ([(4,yV (ai (g.aB+1))),(11,{av:=some (ao (e.prev != g.head)),g:=false}),(12,{b:=false})]++yg [7,8,9,10])] [.aa [34,19,7,6,5,4,3,2,0,1] [1015,4,3,2]] ([yN (g.aB+1)]++yM 5 (yI vm)++ [yI (cN e.prev g.head),yI vm])<|bn 34 (e.prev != g.head) (by assumption)<|a_<|zS<|zP 2 [{hs:=[(4,yV (aw (df e))),(5,yV (ai 0))],T:=5},{}] [.aa [43,8,41,34,19,7,6,5,4,3,2,0,1] [1015,4,3,2]] [yI KL,yI Bv]<|zF 43<|a_<|zP 1 [yH [(2,{av:=some (AV.bt [AV.agg (bQ G),ai 0]),b:=false})]] [.aa [7,9,43,8,41,34,19,6,5,4,3,2,0,1] [9,1015,4,3,2]] [yI vJ,yL 5 5]<|zS<|zq<|zF 53<|a_<|zP 2 [{hs:=[(2,yV (ai (g.aB+1))),(4,yV (aw (df e)))],T:=6},yH [(2,{b:=false})]] [.aa [10,53,7,9,43,8,41,34,19,6,5,4,3,2,0,1] [65,9,1015,4,3,2]] [yN (g.aB+1),yI KL,yL 1 5,yL 2 5,yB (cI (ae aF G.al)) (dG (fun x=>dN rfl) _),yB ((0+(ae aF G.al).length)*40≤562949953421312) (by simp only [aG (f:=aF) (e:=4) (fun _=>rfl)];omega)]<|zS<|zq<|zB 0 (zL (fun (i:Nat)=>(⟨[(53,ao ((0:Int) != (0:Int))),(7,ai 0),(9,AV.addr 9 0),(43,ao ((0:Int) != (0:Int))),(8,ai 0),(41,ai 0),(34,ao (e.prev != g.head)),(19,ao ((0:Int) != (0:Int))),(6,AV.ref 1015),(5,ai 0),(4,AV.addr 4 0),(3,AV.addr 3 0),(2,AV.addr 2 0),(0,AV.agg (bQ g)),(1,AV.agg (a7 e)),(11,ai i),(10,AV.ref 10)],[(9,⟨1,false,true,[ai (g.aB+1),aw (df e),ai G.bA,AV.sl 4 (ae aF G.al),AV.sl 7 (ae bg G.aO)]⟩),(1015,⟨1,true,false,ag (fo e)⟩),(4,⟨1,false,true,[ai 0,cQ,ai 0,AV.nil,AV.nil]⟩),(3,⟨1,false,true,(a7 e)⟩),(2,⟨1,false,true,List.map (aE 65) (List.map (aE 9) (List.map (aE 1015) (List.map (aE 4) (List.map (aE 3) (List.map (aE 2) (bQ g))))))⟩),(10,⟨4,true,false,ae aF (j9 G.al (e.ak.take i))⟩)]⟩:AS)) (fun i=>(i≤e.ak.length)) (fun i=>(e.ak.length-i)) (0) ?_ (zW [.vp 65 10,.aa [53,7,9,43,8,41,34,19,6,5,4,3,2,0,1,11,10] [9,1015,4,3,2,10]]) ?_)
 ·omega
 intro i hi
 refine zS<|bf.jX 1 [{hs:=[(3,{k:=e.ak.length})]}] [.aa [70,53,7,9,43,8,41,34,19,6,5,4,3,2,0,1,11,10] [9,1015,4,3,2,10]] bk (s':=AS.mk [(70,ao (decide ((↑i:Int)<(↑e.ak.length:Int)))),(53,ao ((0:Int) != (0:Int))),(7,ai 0),(9,AV.addr 9 0),(43,ao ((0:Int) != (0:Int))),(8,ai 0),(41,ai 0),(34,ao (e.prev != g.head)),(19,ao ((0:Int) != (0:Int))),(6,AV.ref 1015),(5,ai 0),(4,AV.addr 4 0),(3,AV.addr 3 0),(2,AV.addr 2 0),(0,AV.agg (bQ g)),(1,AV.agg (a7 e)),(11,ai ↑i),(10,AV.ref 10)] [(9,Row.mk 1 false true [ai (g.aB+1),aw (df e),ai G.bA,AV.sl 4 (ae aF G.al),AV.sl 7 (ae bg G.aO)]),(1015,Row.mk 1 true false (ag (fo e))),(4,Row.mk 1 false true [ai 0,cQ,ai 0,AV.nil,AV.nil]),(3,Row.mk 1 false true (a7 e)),(2,Row.mk 1 false true (List.map (aE 65) (List.map (aE 9) (List.map (aE 1015) (List.map (aE 4) (List.map (aE 3) (List.map (aE 2) (bQ g)))))))),(10,Row.mk 4 true false (ae aF (j9 G.al (List.take i e.ak))))]) (C:=[(ae aP e.ak).length=e.ak.length*4]) bk ⟨xN,trivial⟩ (zD 70 ((↑i:Int)<(↑e.ak.length:Int)) (fun q=>?_) (fun q=>?_))
 ·have dM:i<e.ak.length:=aj
  have gN:=la dM
  obtain ⟨l1,l2⟩:=KO i dM
  have dS:=vV G.al dM
  have hl:=m7 i
  have yY:=ng (e.ak.take i) G.al
  generalize j9 G.al (e.ak.take i)=M at *
  have Em:=ml M (e.ak.getD i default).name aj
  obtain ⟨z,hz,Re⟩:∃z:Nat,(e.ak.getD i default).leaf=z∧z<16:=⟨(e.ak.getD i default).leaf.toNat,aj,aj⟩
  have Rk:IntKind.u64.wrap (e.ak.getD i default).leaf=(z:Int):=by rw [hz,IntKind.wrap_u64];omega
  have R7:AV.val (.int .u64 (IntKind.u64.wrap (wv 1*2^min ((z:Nat):Int).toNat IntKind.u64.bits)))=aw (gC (e.ak.getD i default).leaf):=by rw [jB 1 (z:Int) aj aj];unfold gC;rw [hz]
  rcases gH M (e.ak.getD i default).name with hm|⟨k,hm,iH,-⟩
  ·have hs:pH M (e.ak.getD i default)=M:=if_pos aj
   rw [hm] at Em
   refine a_<|zS<|zB 1<|zP 2 [yH [(4,{k:=i}),(6,yV (cF (e.ak.getD i default).name)),(7,yV (ai (-1:Int)))],{}] [.aa [82,12,70,53,7,9,43,8,41,34,19,6,5,4,3,2,0,1,11,10] [9,1015,4,3,2,10]] [yR (↑i:Int),yO (i*4<(ae aP e.ak).length),yB ((ae aP e.ak)[i*4]?=some (cF (e.ak.getD i default).name)) (bc (f:=aP) (e:=4) (k:=i) (j:=0) (fun _=>rfl) aj rfl),yI Em]<|dt 82 ((-1:Int)≥0)<|zK<|aL<|aq<|zX (yH [(1,yV (ai ((↑i:Int)+1)))]) [yN ((↑i:Int)+1)] (aK (i+1) (by assumption) aj (eQ [.aa [53,7,9,43,8,41,34,19,6,5,4,3,2,0,1,11,10] [9,1015,4,3,2,10]] [] [10] [yB (ae aF M=ae aF (j9 G.al (List.take (i+1) e.ak))) (by rw [dS,hs])]))
  ·have Uw:=uj hm
   have hs:pH M (e.ak.getD i default)=M.set k {M.getD k default with used:=(M.getD k default).used|||gC (e.ak.getD i default).leaf}:=by unfold pH;rw [if_neg aj,Uw,hm];rfl
   rw [hm] at Em
   have RF:=nY iH
   have s1:=wE iH ((M.getD k default).used|||gC (e.ak.getD i default).leaf)
   rw [←hs,←dS] at s1
   refine a_<|zS<|zB 1<|zP 2 [yH [(4,{k:=i}),(6,yV (cF (e.ak.getD i default).name)),(7,yV (ai ↑k))],{}] [.aa [82,12,70,53,7,9,43,8,41,34,19,6,5,4,3,2,0,1,11,10] [9,1015,4,3,2,10]] [yR (↑i:Int),yO (i*4<(ae aP e.ak).length),yB ((ae aP e.ak)[i*4]?=some (cF (e.ak.getD i default).name)) (bc (f:=aP) (e:=4) (k:=i) (j:=0) (fun _=>rfl) aj rfl),yI Em]<|gU 82 ((↑k:Int)≥0)<|zX ({hs:=[(2,{k:=k}),(4,yV (aw ((M.getD k default).used))),(8,{k:=i}),(11,yV (ai ((e.ak.getD i default).leaf))),(12,yV (AV.val (Value.int .u64 (↑z:Int)))),(13,yV (aw (gC (e.ak.getD i default).leaf))),(14,yV (aw ((M.getD k default).used|||gC (e.ak.getD i default).leaf))),(15,{k:=k}),(17,yV (AV.arr (ae aF (j9 G.al (List.take (i+1) e.ak)))))],T:=14}) [yR (↑k:Int),yO (k*4<(ae aF M).length),yB ((ae aF M)[k*4+3]?=some (aw ((M.getD k default).used))) (bc (f:=aF) (e:=4) (k:=k) (j:=3) (fun _=>rfl) aj rfl),yR (↑i:Int),yO (i*4<(ae aP e.ak).length),yB ((ae aP e.ak)[i*4+1]?=some (ai ((e.ak.getD i default).leaf))) (bc (f:=aP) (e:=4) (k:=i) (j:=1) (fun _=>rfl) aj rfl),yB (AV.val (Value.int .u64 (IntKind.u64.wrap (e.ak.getD i default).leaf))=AV.val (Value.int .u64 (↑z:Int))) (congrArg (fun n=>AV.val (.int .u64 n)) Rk),yI R7,yO ((0:Int)≤(↑z:Int)),yI (pw ((M.getD k default).used) (gC (e.ak.getD i default).leaf)),yR (↑k:Int),yO (k*4<(ae aF M).length),yI s1,yO (k*4+3+1≤(ae aF M).length)]<|aL<|aq<|zX (yH [(1,yV (ai ((↑i:Int)+1)))]) [yN ((↑i:Int)+1)] (aK (i+1) (by assumption) aj (zW [.aa [53,7,9,43,8,41,34,19,6,5,4,3,2,0,1,11,10] [9,1015,4,3,2,10]]))
 ·have ei:i=e.ak.length:=aj
  subst ei
  rw [List.take_length]
  refine bf.sU [.gP 10] bk<|zE 0<|ba<|aS<|br<|aq<|zP 2 [{},{}] [.aa [5,70,53,7,9,43,8,41,34,19,6,4,3,2,0,1,11,10] [4,9,1015,3,2]] [yL 4 5,yL 5 5]<|zR (zV [yJ (g.aB+1) e.aB (by rw [Oy]),yR (Value.int .u64 (wv (df e))),yR (Value.int .i64 G.bA),yR (ae aF (j9 G.al e.ak)),yR (ae bg G.aO),yR (Value.int .i64 0)])
def Gm (g:gX):Prop:=∀d∈g.aO,d.af.length≤1000000
theorem NC {g:gX} {e:eP} (hG:qD g) (ht:e.kind=3->1≤e.bA∧e.bA≤8) (h:gK g e=0):(cS g e).al.length≤8∧0≤(cS g e).bA∧(cS g e).bA≤8∧(cS g e).aO.length≤8:=by
 obtain ⟨g1,g2,g3,g4,g5,g6⟩:=hG
 unfold cS
 rw [if_neg (fun q=>q h)]
 unfold gK at h
 by_cases c1:e.kind=1
 ·rw [if_pos c1] at h ⊢
  have hm:g.al.length<8:=by
   apply Classical.byContradiction;intro q
   split at h
   ·omega
   rw [if_pos aj] at h;omega
  refine ⟨by simp;omega,?_,?_,g6⟩
  ·show (0:Int)≤(if 2*g.bA≤g.al.length+1 then g.bA+1 else g.bA)
   split<;>omega
  ·show (if 2*g.bA≤g.al.length+1 then g.bA+1 else g.bA)≤(8:Int)
   split<;>omega
 rw [if_neg c1] at h ⊢
 by_cases c2:e.kind=2
 ·rw [if_pos c2]
  refine ⟨?_,g4,g5,g6⟩
  show (pn _ _).length≤8
  unfold pn
  simp only [List.length_append,List.length_take,List.length_drop];omega
 rw [if_neg c2] at h ⊢
 by_cases c3:e.kind=3
 ·rw [if_pos c3]
  have:=ht c3
  exact ⟨g3,by show 0≤e.bA;omega,this.2,g6⟩
 rw [if_neg c3] at h ⊢
 by_cases c4:e.kind=4
 ·rw [if_pos c4] at h ⊢
  refine ⟨g3,g4,g5,?_⟩
  show (g.aO++ [e.dep]).length≤8
  split at h
  ·omega
  ·simp;omega
 rw [if_neg c4]
 exact ⟨g3,g4,g5,by show (qP _ _ _).length≤8;unfold qP;simpa using g6⟩
theorem wV {g:gX} {e:eP} (h:fX g e=0):eu e=0∧e.aB=g.aB+1∧e.prev=g.head∧fA g (df e) e.ak=0∧gK g e=0:=by
 unfold fX at h
 by_cases c1:eu e=0
 case neg=>rw [if_pos c1] at h;exact absurd h c1
 rw [if_neg (fun q=>q c1)] at h
 by_cases c2:e.aB≠g.aB+1∨e.prev≠g.head
 ·rw [if_pos c2] at h;omega
 rw [if_neg c2] at h
 by_cases c3:fA g (df e) e.ak=0
 case neg=>rw [if_pos c3] at h;exact absurd h c3
 rw [if_neg (fun q=>q c3)] at h
 exact ⟨c1,aj,Classical.byContradiction fun q=>c2 (.inr q),c3,h⟩
theorem EL {g:gX} {e:eP} (h:fX g e=0):i_ g e=⟨e.aB,df e,(cS g e).bA,j9 (cS g e).al e.ak,(cS g e).aO⟩:=if_neg (fun q=>q h)
theorem yE {g:gX} {e:eP} (h:fX g e≠0):i_ g e=g:=if_pos h
theorem NP {g:gX} {e:eP} (hG:qD g) (h:fX g e=0):qD (i_ g e):=by
 obtain ⟨h1,h2,h3,h4,h5⟩:=wV h
 obtain ⟨-,-,QP,Sy,-,-⟩:=qc h1
 obtain ⟨b1,b2,b3,b4⟩:=NC hG (xV h1) h5
 rw [EL h]
 exact ⟨by show 0≤e.aB;omega,Sy,by show (j9 _ _).length≤8;rw [ng];exact b1,b2,b3,b4⟩
theorem Gm.VC {g:gX} {e:eP} (hG:Gm g) (hB:e.dep.af.length≤1000000):Gm (i_ g e):=by
 unfold i_
 split
 ·exact hG
 show Gm ⟨_,_,_,_,(cS g e).aO⟩
 intro d hd
 have hd:d∈(cS g e).aO:=hd
 unfold cS at hd
 split at hd
 ·exact hG d hd
 split at hd
 ·exact hG d hd
 split at hd
 ·exact hG d hd
 split at hd
 ·exact hG d hd
 split at hd
 ·rcases List.mem_append.1 hd with hd|hd
  ·exact hG d hd
  ·obtain rfl:=List.mem_singleton.1 hd;exact hB
 ·have hd:d∈qP g.aO (vt g.aO e.bZ) e.target:=hd
  unfold qP at hd
  rcases List.mem_or_eq_of_mem_set hd with hd|rfl
  ·exact hG d hd
  ·show (g.aO.getD _ default).af.length≤_
   rw [List.getD_eq_getElem?_getD]
   by_cases c:vt g.aO e.bZ<g.aO.length
   ·rw [List.getElem?_eq_getElem c];exact hG _ (List.getElem_mem c)
   ·rw [List.getElem?_eq_none aj];exact Nat.zero_le _
theorem Jz {g:gX} {e:eP} (hb:eu e=0) (he:e.aB=g.aB+1) (hp:e.prev=g.head):fX g e=if fA g (df e) e.ak≠0 then fA g (df e) e.ak else gK g e:=by
 unfold fX
 rw [if_neg (fun q=>q hb),if_neg (by rintro (q|q);exact q he;exact q hp)]
theorem ID {e:eP} (k1:1≤e.kind) (k5:e.kind≤5) (hs:fi e) (e1:1≤e.aB) (e2:e.aB≤2147483647):eu e=fa e:=by
 unfold eu
 rw [if_neg aj,if_neg (fun q=>q hs),if_neg aj]
theorem Jr (A:Option Addr) (n c:Nat) (w:World) (hc:n≤c) (hm:c≤maxLen):Calls Tryz.prog 151 #[.slice A n c] w fun e w'=>e= .returned (.slice A n n)∧w'=w:=by
 go_enter Tryz.func151,Tryz.ntmps151
 go_wp2
 go_ret
 exact ⟨rfl,rfl⟩
theorem Jq (row:List AV):bL Tryz.prog 151 [.sl 4 row] (.pf 4 row):=by
 intro w S vs _ hS hl hr
 obtain ⟨a,rfl⟩:=EK hl rfl
 cases hr 0 a _ rfl rfl with
 | sl A n c e us _ hl hn hc hm ha h =>
  refine (Jr A n c w hc hm).mono fun e w' ⟨he,hw⟩=>?_
  subst hw
  refine ⟨_,[],he,Below.refl _ _,List.nodup_nil,by simp,.inl (.inl (.rep (.pf A n 4 us row hl hn aj (fun h0=>?_) fun j u x hu hx=>(h j u x hu hx).mono fun b hb=>⟨.inl hb,rfl⟩)))⟩
  obtain ⟨ad,e1,e2,e3⟩:=ha h0
  exact ⟨ad,e1,.inl e2,e3⟩
theorem Ge (A:Option Addr) (n c:Nat) (w:World) (hc:n≤c) (hm:c≤maxLen):Calls Tryz.prog 153 #[.slice A n c] w fun e w'=>e= .returned (.slice A n n)∧w'=w:=by
 go_enter Tryz.func153,Tryz.ntmps153
 go_wp2
 go_ret
 exact ⟨rfl,rfl⟩
theorem Gd (row:List AV):bL Tryz.prog 153 [.sl 7 row] (.pf 7 row):=by
 intro w S vs _ hS hl hr
 obtain ⟨a,rfl⟩:=EK hl rfl
 cases hr 0 a _ rfl rfl with
 | sl A n c e us _ hl hn hc hm ha h =>
  refine (Ge A n c w hc hm).mono fun e w' ⟨he,hw⟩=>?_
  subst hw
  refine ⟨_,[],he,Below.refl _ _,List.nodup_nil,by simp,.inl (.inl (.rep (.pf A n 7 us row hl hn aj (fun h0=>?_) fun j u x hu hx=>(h j u x hu hx).mono fun b hb=>⟨.inl hb,rfl⟩)))⟩
  obtain ⟨ad,e1,e2,e3⟩:=ha h0
  exact ⟨ad,e1,.inl e2,e3⟩
end Go.Proofs.YtjgbhhnghedgdaaGreatDoor
