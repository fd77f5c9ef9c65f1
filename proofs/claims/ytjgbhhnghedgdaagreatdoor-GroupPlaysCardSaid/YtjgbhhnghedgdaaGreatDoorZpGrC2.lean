import Derived.Test.YtjgbhhnghedgdaaGreatDoorZpGrC1
import Derived.Test.YtjgbhhnghedgdaaGreatDoorZpGrR3
set_option linter.all false
namespace Go.Proofs.YtjgbhhnghedgdaaGreatDoor
open Go.RowKit
set_option maxRecDepth 100000
set_option maxHeartbeats 4000000
theorem wq {l:List Mem} {k:Nat} (hk:k<l.length) (u:UInt64):(af aI l).set (k*4+3) (aw u)=af aI (l.set k {l.getD k default with used:=u}):=by
 induction l generalizing k with
 | nil=>cases hk
 | cons m l ih =>
  cases k with
  | zero=>rfl
  | succ k =>
   have:=ih (k:=k) (by simpa using hk)
   rw [show (k+1)*4+3=k*4+3+4 by omega]
   show aI m++(af aI l).set (k*4+3) (aw u)=aI m++af aI (l.set k {l.getD k default with used:=u})
   rw [this]
theorem Gt (l:List Mem) (v:gA):(pA l v).length=l.length:=by unfold pA;split<;>simp
theorem mY (vs:List gA):∀l:List Mem,(jY l vs).length=l.length:=by
 induction vs with
 | nil=>intro l;rfl
 | cons v vs ih=>intro l;show (jY (pA l v) vs).length=_;rw [ih,Gt]
theorem vO (l:List Mem) {V:List gA} {i:Nat} (h:i<V.length):jY l (V.take (i+1))=pA (jY l (V.take i)) (V.getD i default):=by
 unfold jY
 rw [List.take_add_one,List.foldl_append,List.getD_eq_getElem?_getD,List.getElem?_eq_getElem h];rfl
theorem vK {g:gB} {w:UInt64} {V:List gA} (h:fv g w V=0) {i:Nat} (hi:i<V.length):0≤(V.getD i default).leaf∧(V.getD i default).leaf<16:=by
 have h0:ff (jR g w V) V.length=0:=by
  apply Classical.byContradiction;intro q
  unfold fv at h;rw [if_pos q] at h;exact q h
 have h1:jR g w V i=0:=xV h0 i hi
 unfold jR at h1
 split at h1
 ·omega
 split at h1
 ·omega
 split at h1
 ·rename_i q;exact absurd h1 q
 ·rename_i q;exact tp (Classical.not_not.1 q)
theorem Bg (g:gB) (e:fo):(cP g e).al.length≤g.al.length+1:=by
 unfold cP pb
 split
 ·omega
 split
 ·simp
 split
 ·simp only [List.length_append,List.length_take,List.length_drop];omega
 split
 ·simp
 split<;>simp
theorem pZ {e:fo} (h:eh e=0):1≤e.kind∧e.kind≤5∧1≤e.aA∧e.aA≤2147483647∧eW e=0∧fa e:=by
 unfold eh at h
 by_cases k1:e.kind<1∨5<e.kind
 ·rw [if_pos k1] at h;omega
 rw [if_neg k1] at h
 by_cases c1:¬fa e
 ·rw [if_pos c1] at h;omega
 rw [if_neg c1] at h
 by_cases q1:e.aA<1∨2147483647<e.aA
 ·rw [if_pos q1] at h;omega
 rw [if_neg q1] at h
 exact ⟨aj,aj,aj,aj,h,Classical.not_not.1 c1⟩
theorem xP {e:fo} (h:eh e=0) (k3:e.kind=3):1≤e.bt∧e.bt≤8:=by
 have hf:=(pZ h).2.2.2.2.1
 unfold eW at hf
 rw [if_neg aj,if_neg aj,if_pos k3] at hf
 apply Classical.byContradiction;intro q
 rw [if_pos aj] at hf;omega
theorem xl (g:gB) (e:fo) (hG:nI g) (hB:mQ e) (hv:e.aq.length≤1000000) (mT:bK Tryz.prog 40 [.agg (bX e)] (.br [.own 1 (ag (fA e)),ai (eh e)])):bK Tryz.prog 31 [.agg (bV g),.agg (bX e)] (.br [.agg (bV (kQ g e)),ai (fI g e)]):=by
 have uq:(af aU e.aq).length=e.aq.length*4:=aE (e:=4) (fun _=>rfl) ..
 by_cases cb:eh e=0
 case neg =>
  have ce:fI g e=eh e:=if_pos cb
  have cg:kQ g e=g:=if_pos (by rw [ce];exact cb)
  rw [ce,cg]
  refine zO Tryz.func31 103<|zP 2 [{},yH [(1,yV (AV.br [AV.own 1 (ag (fA e)),ai (eh e)]))]] [.aa [7,6,5,4,3,2,0,1] [1015,4,3,2]] [yI mT,yI (aQ (fA e))]<|zS<|zQ 1 [yH [(1,yV (ao true))]] [yB (ao (eh e != (0:Int))=ao true) (by simp [cb])]<|zT 19<|zP 1 [{}] [.aa [5,19,7,6,4,3,2,0,1] [4,1015,3,2]] [yL 5 5]<|dt (bU)
 have pr:=uG e cb
 obtain ⟨k1,k5,QE,Sq,vh,S5⟩:=pZ cb
 have hw:IntKind.i64.wrap (g.aA+1)=g.aA+1:=by have:=hG.Vr;have:=hG.QE;rw [IntKind.wrap_i64];omega
 rw [cb] at mT
 by_cases c1:e.aA≠g.aA+1
 ·have ce:fI g e=42:=by unfold fI;rw [if_neg (fun q=>q cb),if_pos (.inl c1)]
  have cg:kQ g e=g:=if_pos aj
  rw [ce,cg]
  have vc:(e.aA != g.aA+1)=true:=bne_iff_ne.2 c1
  refine zO Tryz.func31 103<|zP 2 [{},yH [(1,yV (AV.br [AV.own 1 (ag (fA e)),ai 0]))]] [.aa [7,6,5,4,3,2,0,1] [1015,4,3,2]] [yI mT,yI (aQ (fA e))]<|zS<|zq<|zF 19<|a7<|zS<|zP 1 [yH [(4,yV (ai (g.aA+1)))]] [.aa [34,19,7,6,5,4,3,2,0,1] [1015,4,3,2]] ([yI (yc hw)]++yM 6 (yI vc))<|zT 34<|zP 1 [{}] [.aa [5,34,19,7,6,4,3,2,0,1] [4,1015,3,2]] [yL 5 5]<|dt (bU)
 have Ok:e.aA=g.aA+1:=aj
 have vc:(e.aA != g.aA+1)=false:=by rw [Ok];simp
 by_cases c2:e.prev=g.head
 case neg =>
  have ce:fI g e=42:=by unfold fI;rw [if_neg (fun q=>q cb),if_pos (.inr c2)]
  have cg:kQ g e=g:=if_pos aj
  rw [ce,cg]
  have Su:(e.prev != g.head)=true:=bne_iff_ne.2 c2
  refine zO Tryz.func31 103<|zP 2 [{},yH [(1,yV (AV.br [AV.own 1 (ag (fA e)),ai 0]))]] [.aa [7,6,5,4,3,2,0,1] [1015,4,3,2]] [yI mT,yI (aQ (fA e))]<|zS<|zq<|zF 19<|a7<|zS<|zP 1 [yH ([(4,yV (ai (g.aA+1))),(11,{av:=some (ao (e.prev != g.head)),g:=false}),(12,{b:=false})]++yg [7,8,9,10])] [.aa [34,19,7,6,5,4,3,2,0,1] [1015,4,3,2]] ([yN (g.aA+1)]++yM 5 (yI vc)++ [yI (cI e.prev g.head),yI vc])<|dr 34 (e.prev != g.head) (by assumption)<|zP 1 [{}] [.aa [5,34,19,7,6,4,3,2,0,1] [4,1015,3,2]] [yL 5 5]<|dt (bU)
 have Su:(e.prev != g.head)=false:=by rw [c2];simp
 have FT:fI g e=if fv g (de e) e.aq≠0 then fv g (de e) e.aq else gK g e:=by unfold fI;rw [if_neg (fun q=>q cb),if_neg (by rintro (q|q);exact q Ok;exact q c2)]
 have Ky:=oz (fA e) aj
 rw [show hash 16 (fA e)=de e from rfl] at Ky
 have m8:=hG.m8
 have D7:=xd g (de e) e.aq aj hv
 by_cases c3:fv g (de e) e.aq=0
 case neg =>
  rw [if_pos c3] at FT
  have cg:kQ g e=g:=if_pos (by rw [FT];exact c3)
  rw [FT,cg]
  refine zO Tryz.func31 103<|zP 2 [{},yH [(1,yV (AV.br [AV.own 1 (ag (fA e)),ai 0]))]] [.aa [7,6,5,4,3,2,0,1] [1015,4,3,2]] [yI mT,yI (aQ (fA e))]<|zS<|zQ 1 [yH [(1,yV (ao false))]] [yR (ao false)]<|zF 19<|a7<|zS<|zP 1 [yH ([(4,yV (ai (g.aA+1))),(11,{av:=some (ao (e.prev != g.head)),g:=false}),(12,{b:=false})]++yg [7,8,9,10])] [.aa [34,19,7,6,5,4,3,2,0,1] [1015,4,3,2]] ([yN (g.aA+1)]++yM 5 (yI vc)++ [yI (cI e.prev g.head),yI vc])<|bj 34 (e.prev != g.head) (by assumption)<|a7<|zS<|zP 2 [{hs:=[(4,yV (aw (de e))),(5,yV (ai (fv g (de e) e.aq)))],T:=5},yH [(1,yV (ao true))]] [.aa [43,8,41,34,19,7,6,5,4,3,2,0,1] [1015,4,3,2]] [yI Ky,yI D7,yB (ao (fv g (de e) e.aq != (0:Int))=ao true) (by simp [c3])]<|zT 43<|zP 1 [{}] [.aa [5,43,8,41,34,19,7,6,4,3,2,0,1] [4,1015,3,2]] [yL 5 5]<|dt (bU)
 have KC:=fun i hi=>vK c3 (i:=i) hi
 rw [if_neg (fun q=>q c3)] at FT
 rw [c3] at D7
 have vz:=vr g e hG k1 k5 (xP cb) (by have:=hB.dep.F_;omega)
 rw [←FT] at vz
 by_cases c4:fI g e=0
 case neg =>
  have cg:kQ g e=g:=if_pos c4
  rw [cg]
  refine zO Tryz.func31 103<|zP 2 [{},yH [(1,yV (AV.br [AV.own 1 (ag (fA e)),ai 0]))]] [.aa [7,6,5,4,3,2,0,1] [1015,4,3,2]] [yI mT,yI (aQ (fA e))]<|zS<|zQ 1 [yH [(1,yV (ao false))]] [yR (ao false)]<|zF 19<|a7<|zS<|zP 1 [yH ([(4,yV (ai (g.aA+1))),(11,{av:=some (ao (e.prev != g.head)),g:=false}),(12,{b:=false})]++yg [7,8,9,10])] [.aa [34,19,7,6,5,4,3,2,0,1] [1015,4,3,2]] ([yN (g.aA+1)]++yM 5 (yI vc)++ [yI (cI e.prev g.head),yI vc])<|bj 34 (e.prev != g.head) (by assumption)<|a7<|zS<|zP 2 [{hs:=[(4,yV (aw (de e))),(5,yV (ai 0))],T:=5},yH [(1,yV (ao false))]] [.aa [43,8,41,34,19,7,6,5,4,3,2,0,1] [1015,4,3,2]] [yI Ky,yI D7,yR (ao false)]<|zF 43<|a7<|zP 1 [yH [(2,{av:=some (AV.br [AV.agg (bV (cP g e)),ai (fI g e)]),b:=false})]] [.aa [7,9,43,8,41,34,19,6,5,4,3,2,0,1] [9,1015,4,3,2]] [yI vz,yL 5 5]<|zS<|zQ 1 [yH [(1,yV (ao true))]] [yB (ao (fI g e != (0:Int))=ao true) (by simp [c4])]<|zT 53<|zP 1 [{}] [.aa [5,53,7,9,43,8,41,34,19,6,4,3,2,0,1] [4,9,1015,3,2]] [yL 5 5]<|dt (bU)
 have cg:kQ g e=⟨e.aA,de e,(cP g e).bt,jY (cP g e).al e.aq,(cP g e).aJ⟩:=if_neg (fun q=>q c4)
 rw [cg,c4]
 rw [c4] at vz
 have gC:=Bg g e
 generalize cP g e=G at *
 have l0:∀i,(af aI (jY G.al (e.aq.take i))).length=G.al.length*4:=fun i=>by rw [aE (e:=4) (fun _=>rfl),mY]
 clear FT cg
 refine zO Tryz.func31 103<|zP 2 [{},yH [(1,yV (AV.br [AV.own 1 (ag (fA e)),ai 0]))]] [.aa [7,6,5,4,3,2,0,1] [1015,4,3,2]] [yI mT,yI (aQ (fA e))]<|zS<|zq<|zF 19<|a7<|zS<|zP 1 [yH ([(4,yV (ai (g.aA+1))),(11,{av:=some (ao (e.prev != g.head)),g:=false}),(12,{b:=false})]++yg [7,8,9,10])] [.aa [34,19,7,6,5,4,3,2,0,1] [1015,4,3,2]] ([yN (g.aA+1)]++yM 5 (yI vc)++ [yI (cI e.prev g.head),yI vc])<|bj 34 (e.prev != g.head) (by assumption)<|a7<|zS<|zP 2 [{hs:=[(4,yV (aw (de e))),(5,yV (ai 0))],T:=5},{}] [.aa [43,8,41,34,19,7,6,5,4,3,2,0,1] [1015,4,3,2]] [yI Ky,yI D7]<|zF 43<|a7<|zP 1 [yH [(2,{av:=some (AV.br [AV.agg (bV G),ai 0]),b:=false})]] [.aa [7,9,43,8,41,34,19,6,5,4,3,2,0,1] [9,1015,4,3,2]] [yI vz,yL 5 5]<|zS<|zq<|zF 53<|a7<|zP 2 [{hs:=[(2,yV (ai (g.aA+1))),(4,yV (aw (de e)))],T:=6},yH [(2,{b:=false})]] [.aa [10,53,7,9,43,8,41,34,19,6,5,4,3,2,0,1] [65,9,1015,4,3,2]] [yN (g.aA+1),yI Ky,yL 1 5,yL 2 5,yB (cH (af aI G.al)) (dG (fun x=>dP rfl) _),yB ((0+(af aI G.al).length)*40≤562949953421312) (by simp only [aE (f:=aI) (e:=4) (fun _=>rfl)];omega)]<|zS<|zq<|zB 0 (zL (fun (i:Nat)=>(⟨[(53,ao ((0:Int) != (0:Int))),(7,ai 0),(9,AV.addr 9 0),(43,ao ((0:Int) != (0:Int))),(8,ai 0),(41,ai 0),(34,ao (e.prev != g.head)),(19,ao ((0:Int) != (0:Int))),(6,AV.ref 1015),(5,ai 0),(4,AV.addr 4 0),(3,AV.addr 3 0),(2,AV.addr 2 0),(0,AV.agg (bV g)),(1,AV.agg (bX e)),(11,ai i),(10,AV.ref 10)],[(9,⟨1,false,true,[ai (g.aA+1),aw (de e),ai G.bt,AV.sl 4 (af aI G.al),AV.sl 7 (af bg G.aJ)]⟩),(1015,⟨1,true,false,ag (fA e)⟩),(4,⟨1,false,true,[ai 0,dW,ai 0,AV.nil,AV.nil]⟩),(3,⟨1,false,true,(bX e)⟩),(2,⟨1,false,true,List.map (aR 65) (List.map (aR 9) (List.map (aR 1015) (List.map (aR 4) (List.map (aR 3) (List.map (aR 2) (bV g))))))⟩),(10,⟨4,true,false,af aI (jY G.al (e.aq.take i))⟩)]⟩:AS)) (fun i=>(i≤e.aq.length)) (fun i=>(e.aq.length-i)) (0) ?_ (zW [.sm 65 10,.aa [53,7,9,43,8,41,34,19,6,5,4,3,2,0,1,11,10] [9,1015,4,3,2,10]]) ?_)
 ·omega
 intro i hi
 refine zS<|bf.pG 1 [{hs:=[(3,{k:=e.aq.length})]}] [.aa [70,53,7,9,43,8,41,34,19,6,5,4,3,2,0,1,11,10] [9,1015,4,3,2,10]] bD (s':=AS.mk [(70,ao (decide ((↑i:Int)<(↑e.aq.length:Int)))),(53,ao ((0:Int) != (0:Int))),(7,ai 0),(9,AV.addr 9 0),(43,ao ((0:Int) != (0:Int))),(8,ai 0),(41,ai 0),(34,ao (e.prev != g.head)),(19,ao ((0:Int) != (0:Int))),(6,AV.ref 1015),(5,ai 0),(4,AV.addr 4 0),(3,AV.addr 3 0),(2,AV.addr 2 0),(0,AV.agg (bV g)),(1,AV.agg (bX e)),(11,ai ↑i),(10,AV.ref 10)] [(9,Row.mk 1 false true [ai (g.aA+1),aw (de e),ai G.bt,AV.sl 4 (af aI G.al),AV.sl 7 (af bg G.aJ)]),(1015,Row.mk 1 true false (ag (fA e))),(4,Row.mk 1 false true [ai 0,dW,ai 0,AV.nil,AV.nil]),(3,Row.mk 1 false true (bX e)),(2,Row.mk 1 false true (List.map (aR 65) (List.map (aR 9) (List.map (aR 1015) (List.map (aR 4) (List.map (aR 3) (List.map (aR 2) (bV g)))))))),(10,Row.mk 4 true false (af aI (jY G.al (List.take i e.aq))))]) (C:=[(af aU e.aq).length=e.aq.length*4]) bD ⟨uq,trivial⟩ (zD 70 ((↑i:Int)<(↑e.aq.length:Int)) (fun q=>?_) (fun q=>?_))
 ·have dD:i<e.aq.length:=aj
  have gT:=jm dD
  obtain ⟨l1,l2⟩:=KC i dD
  have dL:=vO G.al dD
  have hl:=l0 i
  have yU:=mY (e.aq.take i) G.al
  generalize jY G.al (e.aq.take i)=M at *
  have D_:=l_ M (e.aq.getD i default).name aj
  obtain ⟨z,hz,Q4⟩:∃z:Nat,(e.aq.getD i default).leaf=z∧z<16:=⟨(e.aq.getD i default).leaf.toNat,aj,aj⟩
  have Q_:IntKind.u64.wrap (e.aq.getD i default).leaf=(z:Int):=by rw [hz,IntKind.wrap_u64];omega
  have RY:AV.val (.int .u64 (IntKind.u64.wrap (wv 1*2^min ((z:Nat):Int).toNat IntKind.u64.bits)))=aw (gy (e.aq.getD i default).leaf):=by rw [jx 1 (z:Int) aj aj];unfold gy;rw [hz]
  rcases gG M (e.aq.getD i default).name with hm|⟨k,hm,iF,-⟩
  ·have hs:pA M (e.aq.getD i default)=M:=if_pos aj
   rw [hm] at D_
   refine a7<|zS<|zB 1<|zP 2 [yH [(4,{k:=i}),(6,yV (cZ (e.aq.getD i default).name)),(7,yV (ai (-1:Int)))],{}] [.aa [82,12,70,53,7,9,43,8,41,34,19,6,5,4,3,2,0,1,11,10] [9,1015,4,3,2,10]] [yR (↑i:Int),yO (i*4<(af aU e.aq).length),yA aU e.aq i 0,yI D_]<|dp 82 ((-1:Int)≥0)<|zK<|aL<|ak<|zX (yH [(1,yV (ai ((↑i:Int)+1)))]) [yN ((↑i:Int)+1)] (aH (i+1) (by assumption) aj (eJ [.aa [53,7,9,43,8,41,34,19,6,5,4,3,2,0,1,11,10] [9,1015,4,3,2,10]] [] [10] [yB (af aI M=af aI (jY G.al (List.take (i+1) e.aq))) (by rw [dL,hs])]))
  ·have Un:=ua hm
   have hs:pA M (e.aq.getD i default)=M.set k {M.getD k default with used:=(M.getD k default).used|||gy (e.aq.getD i default).leaf}:=by unfold pA;rw [if_neg aj,Un,hm];rfl
   rw [hm] at D_
   have Rv:=mg iF
   have s1:=wq iF ((M.getD k default).used|||gy (e.aq.getD i default).leaf)
   rw [←hs,←dL] at s1
   refine a7<|zS<|zB 1<|zP 2 [yH [(4,{k:=i}),(6,yV (cZ (e.aq.getD i default).name)),(7,yV (ai ↑k))],{}] [.aa [82,12,70,53,7,9,43,8,41,34,19,6,5,4,3,2,0,1,11,10] [9,1015,4,3,2,10]] [yR (↑i:Int),yO (i*4<(af aU e.aq).length),yA aU e.aq i 0,yI D_]<|ib 82 ((↑k:Int)≥0)<|zX ({hs:=[(2,{k:=k}),(4,yV (aw ((M.getD k default).used))),(8,{k:=i}),(11,yV (ai ((e.aq.getD i default).leaf))),(12,yV (AV.val (Value.int .u64 (↑z:Int)))),(13,yV (aw (gy (e.aq.getD i default).leaf))),(14,yV (aw ((M.getD k default).used|||gy (e.aq.getD i default).leaf))),(15,{k:=k}),(17,yV (AV.arr (af aI (jY G.al (List.take (i+1) e.aq)))))],T:=14}) [yR (↑k:Int),yO (k*4<(af aI M).length),yA aI M k 3,yR (↑i:Int),yO (i*4<(af aU e.aq).length),yA aU e.aq i 1,yI (yd Q_),yI RY,yO ((0:Int)≤(↑z:Int)),yI (pg ((M.getD k default).used) (gy (e.aq.getD i default).leaf)),yR (↑k:Int),yO (k*4<(af aI M).length),yI s1,yO (k*4+3+1≤(af aI M).length)]<|aL<|ak<|zX (yH [(1,yV (ai ((↑i:Int)+1)))]) [yN ((↑i:Int)+1)] (aH (i+1) (by assumption) aj (zW [.aa [53,7,9,43,8,41,34,19,6,5,4,3,2,0,1,11,10] [9,1015,4,3,2,10]]))
 ·have ei:i=e.aq.length:=aj
  subst ei
  rw [List.take_length]
  refine bf.rG [.gp 10] bD<|zE 0<|a_<|aP<|bo<|ak<|zP 2 [{},{}] [.aa [5,70,53,7,9,43,8,41,34,19,6,4,3,2,0,1,11,10] [4,9,1015,3,2]] [yL 4 5,yL 5 5]<|zR (zV [yJ (g.aA+1) e.aA (by rw [Ok]),yR (Value.int .u64 (wv (de e))),yR (Value.int .i64 G.bt),yR (af aI (jY G.al e.aq)),yR (af bg G.aJ),yR (Value.int .i64 0)])
def Dn (g:gB):Prop:=∀d∈g.aJ,d.ae.length≤1000000
theorem Nn {g:gB} {e:fo} (hG:nI g) (ht:e.kind=3->1≤e.bt∧e.bt≤8) (h:gK g e=0):(cP g e).al.length≤8∧0≤(cP g e).bt∧(cP g e).bt≤8∧(cP g e).aJ.length≤8:=by
 obtain ⟨g1,g2,g3,g4,g5,g6⟩:=hG
 unfold cP
 rw [if_neg (fun q=>q h)]
 unfold gK at h
 by_cases c1:e.kind=1
 ·rw [if_pos c1] at h ⊢
  have hm:g.al.length<8:=by
   apply Classical.byContradiction;intro q
   split at h
   ·omega
   rw [if_pos aj] at h;omega
  refine ⟨by simp;omega,?_,?_,g6⟩
  ·show (0:Int)≤(if 2*g.bt≤g.al.length+1 then g.bt+1 else g.bt)
   split<;>omega
  ·show (if 2*g.bt≤g.al.length+1 then g.bt+1 else g.bt)≤(8:Int)
   split<;>omega
 rw [if_neg c1] at h ⊢
 by_cases c2:e.kind=2
 ·rw [if_pos c2]
  refine ⟨?_,g4,g5,g6⟩
  show (pb _ _).length≤8
  unfold pb
  simp only [List.length_append,List.length_take,List.length_drop];omega
 rw [if_neg c2] at h ⊢
 by_cases c3:e.kind=3
 ·rw [if_pos c3]
  have:=ht c3
  exact ⟨g3,by show 0≤e.bt;omega,this.2,g6⟩
 rw [if_neg c3] at h ⊢
 by_cases c4:e.kind=4
 ·rw [if_pos c4] at h ⊢
  refine ⟨g3,g4,g5,?_⟩
  show (g.aJ++ [e.dep]).length≤8
  split at h
  ·omega
  ·simp;omega
 rw [if_neg c4]
 exact ⟨g3,g4,g5,by show (tG _ _ _).length≤8;unfold tG;simpa using g6⟩
theorem wO {g:gB} {e:fo} (h:fI g e=0):eh e=0∧e.aA=g.aA+1∧e.prev=g.head∧fv g (de e) e.aq=0∧gK g e=0:=by
 unfold fI at h
 by_cases c1:eh e=0
 case neg=>rw [if_pos c1] at h;exact absurd h c1
 rw [if_neg (fun q=>q c1)] at h
 by_cases c2:e.aA≠g.aA+1∨e.prev≠g.head
 ·rw [if_pos c2] at h;omega
 rw [if_neg c2] at h
 by_cases c3:fv g (de e) e.aq=0
 case neg=>rw [if_pos c3] at h;exact absurd h c3
 rw [if_neg (fun q=>q c3)] at h
 exact ⟨c1,aj,Classical.byContradiction fun q=>c2 (.inr q),c3,h⟩
theorem Ez {g:gB} {e:fo} (h:fI g e=0):kQ g e=⟨e.aA,de e,(cP g e).bt,jY (cP g e).al e.aq,(cP g e).aJ⟩:=if_neg (fun q=>q h)
theorem s6 {g:gB} {e:fo} (h:fI g e≠0):kQ g e=g:=if_pos h
theorem Nz {g:gB} {e:fo} (hG:nI g) (h:fI g e=0):nI (kQ g e):=by
 obtain ⟨h1,h2,h3,h4,h5⟩:=wO h
 obtain ⟨-,-,QE,Sq,-,-⟩:=pZ h1
 obtain ⟨b1,b2,b3,b4⟩:=Nn hG (xP h1) h5
 rw [Ez h]
 exact ⟨by show 0≤e.aA;omega,Sq,by show (jY _ _).length≤8;rw [mY];exact b1,b2,b3,b4⟩
theorem Dn.Vx {g:gB} {e:fo} (hG:Dn g) (hB:e.dep.ae.length≤1000000):Dn (kQ g e):=by
 unfold kQ
 split
 ·exact hG
 show Dn ⟨_,_,_,_,(cP g e).aJ⟩
 intro d hd
 have hd:d∈(cP g e).aJ:=hd
 unfold cP at hd
 split at hd
 ·exact hG d hd
 split at hd
 ·exact hG d hd
 split at hd
 ·exact hG d hd
 split at hd
 ·exact hG d hd
 split at hd
 ·rcases List.mem_append.1 hd with hd|hd
  ·exact hG d hd
  ·obtain rfl:=List.mem_singleton.1 hd;exact hB
 ·have hd:d∈tG g.aJ (vi g.aJ e.bF) e.target:=hd
  unfold tG at hd
  rcases List.mem_or_eq_of_mem_set hd with hd|rfl
  ·exact hG d hd
  ·show (g.aJ.getD _ default).ae.length≤_
   rw [List.getD_eq_getElem?_getD]
   by_cases c:vi g.aJ e.bF<g.aJ.length
   ·rw [List.getElem?_eq_getElem c];exact hG _ (List.getElem_mem c)
   ·rw [List.getElem?_eq_none aj];exact Nat.zero_le _
theorem Jn {g:gB} {e:fo} (hb:eh e=0) (he:e.aA=g.aA+1) (hp:e.prev=g.head):fI g e=if fv g (de e) e.aq≠0 then fv g (de e) e.aq else gK g e:=by
 unfold fI
 rw [if_neg (fun q=>q hb),if_neg (by rintro (q|q);exact q he;exact q hp)]
theorem Io {e:fo} (k1:1≤e.kind) (k5:e.kind≤5) (hs:fa e) (e1:1≤e.aA) (e2:e.aA≤2147483647):eh e=eW e:=by
 unfold eh
 rw [if_neg aj,if_neg (fun q=>q hs),if_neg aj]
theorem Je (A:Option Addr) (n c:Nat) (w:World) (hc:n≤c) (hm:c≤maxLen):Calls Tryz.prog 151 #[.slice A n c] w fun e w'=>e= .returned (.slice A n n)∧w'=w:=by
 go_enter Tryz.func151,Tryz.ntmps151
 go_wp2
 go_ret
 exact ⟨rfl,rfl⟩
theorem Jd (row:List AV):bK Tryz.prog 151 [.sl 4 row] (.pt 4 row):=by
 intro w S vs _ hS hl hr
 obtain ⟨a,rfl⟩:=Ey hl rfl
 cases hr 0 a _ rfl rfl with
 | sl A n c e us _ hl hn hc hm ha h =>
  refine (Je A n c w hc hm).mono fun e w' ⟨he,hw⟩=>?_
  subst hw
  refine ⟨_,[],he,Below.refl _ _,List.nodup_nil,by simp,.inl (.inl (.rep (.pt A n 4 us row hl hn aj (fun h0=>?_) fun j u x hu hx=>(h j u x hu hx).mono fun b hb=>⟨.inl hb,rfl⟩)))⟩
  obtain ⟨ad,e1,e2,e3⟩:=ha h0
  exact ⟨ad,e1,.inl e2,e3⟩
theorem FR (A:Option Addr) (n c:Nat) (w:World) (hc:n≤c) (hm:c≤maxLen):Calls Tryz.prog 153 #[.slice A n c] w fun e w'=>e= .returned (.slice A n n)∧w'=w:=by
 go_enter Tryz.func153,Tryz.ntmps153
 go_wp2
 go_ret
 exact ⟨rfl,rfl⟩
theorem FQ (row:List AV):bK Tryz.prog 153 [.sl 7 row] (.pt 7 row):=by
 intro w S vs _ hS hl hr
 obtain ⟨a,rfl⟩:=Ey hl rfl
 cases hr 0 a _ rfl rfl with
 | sl A n c e us _ hl hn hc hm ha h =>
  refine (FR A n c w hc hm).mono fun e w' ⟨he,hw⟩=>?_
  subst hw
  refine ⟨_,[],he,Below.refl _ _,List.nodup_nil,by simp,.inl (.inl (.rep (.pt A n 7 us row hl hn aj (fun h0=>?_) fun j u x hu hx=>(h j u x hu hx).mono fun b hb=>⟨.inl hb,rfl⟩)))⟩
  obtain ⟨ad,e1,e2,e3⟩:=ha h0
  exact ⟨ad,e1,.inl e2,e3⟩
end Go.Proofs.YtjgbhhnghedgdaaGreatDoor
