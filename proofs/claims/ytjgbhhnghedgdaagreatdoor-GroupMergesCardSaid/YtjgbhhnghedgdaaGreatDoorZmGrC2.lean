import Derived.Test.YtjgbhhnghedgdaaGreatDoorZmGrC1
import Derived.Test.YtjgbhhnghedgdaaGreatDoorZmGrR3
set_option linter.all false
namespace Go.Proofs.YtjgbhhnghedgdaaGreatDoor
open Go.RowKit
set_option maxRecDepth 100000
set_option maxHeartbeats 4000000
theorem xa {l:List Mem} {k:Nat} (hk:k<l.length) (u:UInt64):(ae aG l).set (k*4+3) (aw u)=ae aG (l.set k {l.getD k default with used:=u}):=by
 induction l generalizing k with
 | nil=>cases hk
 | cons m l ih =>
  cases k with
  | zero=>rfl
  | succ k =>
   have:=ih (k:=k) (by simpa using hk)
   rw [show (k+1)*4+3=k*4+3+4 by omega]
   show aG m++(ae aG l).set (k*4+3) (aw u)=aG m++ae aG (l.set k {l.getD k default with used:=u})
   rw [this]
theorem Hs (l:List Mem) (v:gb):(pU l v).length=l.length:=by unfold pU;split<;>simp
theorem ns (vs:List gb):∀l:List Mem,(ke l vs).length=l.length:=by
 induction vs with
 | nil=>intro l;rfl
 | cons v vs ih=>intro l;show (ke (pU l v) vs).length=_;rw [ih,Hs]
theorem wJ (l:List Mem) {V:List gb} {i:Nat} (h:i<V.length):ke l (V.take (i+1))=pU (ke l (V.take i)) (V.getD i default):=by
 unfold ke
 rw [List.take_add_one,List.foldl_append,List.getD_eq_getElem?_getD,List.getElem?_eq_getElem h];rfl
theorem wE {g:gp} {w:UInt64} {V:List gb} (h:fB g w V=0) {i:Nat} (hi:i<V.length):0≤(V.getD i default).leaf∧(V.getD i default).leaf<16:=by
 have h0:ff (jY g w V) V.length=0:=by
  apply Classical.byContradiction;intro q
  unfold fB at h;rw [if_pos q] at h;exact q h
 have h1:jY g w V i=0:=y0 h0 i hi
 unfold jY at h1
 split at h1
 ·omega
 split at h1
 ·omega
 split at h1
 ·rename_i q;exact absurd h1 q
 ·rename_i q;exact tP (Classical.not_not.1 q)
theorem B4 (g:gp) (e:dP):(cS g e).al.length≤g.al.length+1:=by
 unfold cS pG
 split
 ·omega
 split
 ·simp
 split
 ·simp only [List.length_append,List.length_take,List.length_drop];omega
 split
 ·simp
 split<;>simp
theorem qp {e:dP} (h:dH e=0):1≤e.kind∧e.kind≤5∧1≤e.aA∧e.aA≤2147483647∧fb e=0∧fk e:=by
 unfold dH at h
 by_cases k1:e.kind<1∨5<e.kind
 ·rw [if_pos k1] at h;omega
 rw [if_neg k1] at h
 by_cases c1:¬fk e
 ·rw [if_pos c1] at h;omega
 rw [if_neg c1] at h
 by_cases q1:e.aA<1∨2147483647<e.aA
 ·rw [if_pos q1] at h;omega
 rw [if_neg q1] at h
 exact ⟨ah,ah,ah,ah,h,Classical.not_not.1 c1⟩
theorem yQ {e:dP} (h:dH e=0) (k3:e.kind=3):1≤e.br∧e.br≤8:=by
 have hf:=(qp h).2.2.2.2.1
 unfold fb at hf
 rw [if_neg ah,if_neg ah,if_pos k3] at hf
 apply Classical.byContradiction;intro q
 rw [if_pos ah] at hf;omega
theorem p9 (g:gp) (e:dP) (hG:mj g) (hB:mY e) (hv:e.aq.length≤1000000) (nn:bC Tryz.prog 40 [.agg (aI e)] (.bk [.own 1 (ag (bN e)),ai (dH e)])):bC Tryz.prog 31 [.agg (bo g),.agg (aI e)] (.bk [.agg (bo (ia g e)),ai (fD g e)]):=by
 have yx:(ae aU e.aq).length=e.aq.length*4:=aE (e:=4) (fun _=>rfl) ..
 by_cases cb:dH e=0
 case neg =>
  have ce:fD g e=dH e:=if_pos cb
  have cg:ia g e=g:=if_pos (by rw [ce];exact cb)
  rw [ce,cg]
  refine zO Tryz.func31 103<|zP 2 [{},yH [(1,yV (AV.bk [AV.own 1 (ag (bN e)),ai (dH e)]))]] [.aa [7,6,5,4,3,2,0,1] [1015,4,3,2]] [yI nn,yI (aP (bN e))]<|zS<|zQ 1 [yH [(1,yV (ao true))]] [yB (ao (dH e != (0:Int))=ao true) (by simp [cb])]<|zT 19<|zP 1 [{}] [.aa [5,19,7,6,4,3,2,0,1] [4,1015,3,2]] [yL 5 5]<|dd (bL)
 have lJ:=qq e cb
 obtain ⟨k1,k5,Rq,Th,tp,TR⟩:=qp cb
 have hw:IntKind.i64.wrap (g.aA+1)=g.aA+1:=by have:=hG.V9;have:=hG.Rq;rw [IntKind.wrap_i64];omega
 rw [cb] at nn
 by_cases c1:e.aA≠g.aA+1
 ·have ce:fD g e=42:=by unfold fD;rw [if_neg (fun q=>q cb),if_pos (.inl c1)]
  have cg:ia g e=g:=if_pos ah
  rw [ce,cg]
  have vG:(e.aA != g.aA+1)=true:=bne_iff_ne.2 c1
  refine zO Tryz.func31 103<|zP 2 [{},yH [(1,yV (AV.bk [AV.own 1 (ag (bN e)),ai 0]))]] [.aa [7,6,5,4,3,2,0,1] [1015,4,3,2]] [yI nn,yI (aP (bN e))]<|zS<|zq<|zF 19<|aW<|zS<|zP 1 [yH [(4,yV (ai (g.aA+1)))]] [.aa [34,19,7,6,5,4,3,2,0,1] [1015,4,3,2]] ([yI (yc hw)]++yM 6 (yI vG))<|zT 34<|zP 1 [{}] [.aa [5,34,19,7,6,4,3,2,0,1] [4,1015,3,2]] [yL 5 5]<|dd (bL)
 have Pa:e.aA=g.aA+1:=ah
 have vG:(e.aA != g.aA+1)=false:=by rw [Pa];simp
 by_cases c2:e.prev=g.head
 case neg =>
  have ce:fD g e=42:=by unfold fD;rw [if_neg (fun q=>q cb),if_pos (.inr c2)]
  have cg:ia g e=g:=if_pos ah
  rw [ce,cg]
  have Tk:(e.prev != g.head)=true:=bne_iff_ne.2 c2
  refine zO Tryz.func31 103<|zP 2 [{},yH [(1,yV (AV.bk [AV.own 1 (ag (bN e)),ai 0]))]] [.aa [7,6,5,4,3,2,0,1] [1015,4,3,2]] [yI nn,yI (aP (bN e))]<|zS<|zq<|zF 19<|aW<|zS<|zP 1 [yH ([(4,yV (ai (g.aA+1))),(11,{av:=some (ao (e.prev != g.head)),g:=false}),(12,{b:=false})]++yg [7,8,9,10])] [.aa [34,19,7,6,5,4,3,2,0,1] [1015,4,3,2]] ([yN (g.aA+1)]++yM 5 (yI vG)++ [yI (cJ e.prev g.head),yI vG])<|dm 34 (e.prev != g.head) (by assumption)<|zP 1 [{}] [.aa [5,34,19,7,6,4,3,2,0,1] [4,1015,3,2]] [yL 5 5]<|dd (bL)
 have Tk:(e.prev != g.head)=false:=by rw [c2];simp
 have GX:fD g e=if fB g (di e) e.aq≠0 then fB g (di e) e.aq else gL g e:=by unfold fD;rw [if_neg (fun q=>q cb),if_neg (by rintro (q|q);exact q Pa;exact q c2)]
 have Li:=oR (bN e) ah
 rw [show hash 16 (bN e)=di e from rfl] at Li
 have m8:=hG.m8
 have Ch:=xS g (di e) e.aq ah hv
 by_cases c3:fB g (di e) e.aq=0
 case neg =>
  rw [if_pos c3] at GX
  have cg:ia g e=g:=if_pos (by rw [GX];exact c3)
  rw [GX,cg]
  refine zO Tryz.func31 103<|zP 2 [{},yH [(1,yV (AV.bk [AV.own 1 (ag (bN e)),ai 0]))]] [.aa [7,6,5,4,3,2,0,1] [1015,4,3,2]] [yI nn,yI (aP (bN e))]<|zS<|zQ 1 [yH [(1,yV (ao false))]] [yR (ao false)]<|zF 19<|aW<|zS<|zP 1 [yH ([(4,yV (ai (g.aA+1))),(11,{av:=some (ao (e.prev != g.head)),g:=false}),(12,{b:=false})]++yg [7,8,9,10])] [.aa [34,19,7,6,5,4,3,2,0,1] [1015,4,3,2]] ([yN (g.aA+1)]++yM 5 (yI vG)++ [yI (cJ e.prev g.head),yI vG])<|bj 34 (e.prev != g.head) (by assumption)<|aW<|zS<|zP 2 [{hs:=[(4,yV (aw (di e))),(5,yV (ai (fB g (di e) e.aq)))],T:=5},yH [(1,yV (ao true))]] [.aa [43,8,41,34,19,7,6,5,4,3,2,0,1] [1015,4,3,2]] [yI Li,yI Ch,yB (ao (fB g (di e) e.aq != (0:Int))=ao true) (by simp [c3])]<|zT 43<|zP 1 [{}] [.aa [5,43,8,41,34,19,7,6,4,3,2,0,1] [4,1015,3,2]] [yL 5 5]<|dd (bL)
 have Lm:=fun i hi=>wE c3 (i:=i) hi
 rw [if_neg (fun q=>q c3)] at GX
 rw [c3] at Ch
 have wj:=vZ g e hG k1 k5 (yQ cb) (by have:=hB.dep.Bp;omega)
 rw [←GX] at wj
 by_cases c4:fD g e=0
 case neg =>
  have cg:ia g e=g:=if_pos c4
  rw [cg]
  refine zO Tryz.func31 103<|zP 2 [{},yH [(1,yV (AV.bk [AV.own 1 (ag (bN e)),ai 0]))]] [.aa [7,6,5,4,3,2,0,1] [1015,4,3,2]] [yI nn,yI (aP (bN e))]<|zS<|zQ 1 [yH [(1,yV (ao false))]] [yR (ao false)]<|zF 19<|aW<|zS<|zP 1 [yH ([(4,yV (ai (g.aA+1))),(11,{av:=some (ao (e.prev != g.head)),g:=false}),(12,{b:=false})]++yg [7,8,9,10])] [.aa [34,19,7,6,5,4,3,2,0,1] [1015,4,3,2]] ([yN (g.aA+1)]++yM 5 (yI vG)++ [yI (cJ e.prev g.head),yI vG])<|bj 34 (e.prev != g.head) (by assumption)<|aW<|zS<|zP 2 [{hs:=[(4,yV (aw (di e))),(5,yV (ai 0))],T:=5},yH [(1,yV (ao false))]] [.aa [43,8,41,34,19,7,6,5,4,3,2,0,1] [1015,4,3,2]] [yI Li,yI Ch,yR (ao false)]<|zF 43<|aW<|zP 1 [yH [(2,{av:=some (AV.bk [AV.agg (bo (cS g e)),ai (fD g e)]),b:=false})]] [.aa [7,9,43,8,41,34,19,6,5,4,3,2,0,1] [9,1015,4,3,2]] [yI wj,yL 5 5]<|zS<|zQ 1 [yH [(1,yV (ao true))]] [yB (ao (fD g e != (0:Int))=ao true) (by simp [c4])]<|zT 53<|zP 1 [{}] [.aa [5,53,7,9,43,8,41,34,19,6,4,3,2,0,1] [4,9,1015,3,2]] [yL 5 5]<|dd (bL)
 have cg:ia g e=⟨e.aA,di e,(cS g e).br,ke (cS g e).al e.aq,(cS g e).aL⟩:=if_neg (fun q=>q c4)
 rw [cg,c4]
 rw [c4] at wj
 have gF:=B4 g e
 generalize cS g e=G at *
 have ml:∀i,(ae aG (ke G.al (e.aq.take i))).length=G.al.length*4:=fun i=>by rw [aE (e:=4) (fun _=>rfl),ns]
 clear GX cg
 refine zO Tryz.func31 103<|zP 2 [{},yH [(1,yV (AV.bk [AV.own 1 (ag (bN e)),ai 0]))]] [.aa [7,6,5,4,3,2,0,1] [1015,4,3,2]] [yI nn,yI (aP (bN e))]<|zS<|zq<|zF 19<|aW<|zS<|zP 1 [yH ([(4,yV (ai (g.aA+1))),(11,{av:=some (ao (e.prev != g.head)),g:=false}),(12,{b:=false})]++yg [7,8,9,10])] [.aa [34,19,7,6,5,4,3,2,0,1] [1015,4,3,2]] ([yN (g.aA+1)]++yM 5 (yI vG)++ [yI (cJ e.prev g.head),yI vG])<|bj 34 (e.prev != g.head) (by assumption)<|aW<|zS<|zP 2 [{hs:=[(4,yV (aw (di e))),(5,yV (ai 0))],T:=5},{}] [.aa [43,8,41,34,19,7,6,5,4,3,2,0,1] [1015,4,3,2]] [yI Li,yI Ch]<|zF 43<|aW<|zP 1 [yH [(2,{av:=some (AV.bk [AV.agg (bo G),ai 0]),b:=false})]] [.aa [7,9,43,8,41,34,19,6,5,4,3,2,0,1] [9,1015,4,3,2]] [yI wj,yL 5 5]<|zS<|zq<|zF 53<|aW<|zP 2 [{hs:=[(2,yV (ai (g.aA+1))),(4,yV (aw (di e)))],T:=6},yH [(2,{b:=false})]] [.aa [10,53,7,9,43,8,41,34,19,6,5,4,3,2,0,1] [65,9,1015,4,3,2]] [yN (g.aA+1),yI Li,yL 1 5,yL 2 5,yB (cE (ae aG G.al)) (dD (fun x=>dL rfl) _),yB ((0+(ae aG G.al).length)*40≤562949953421312) (by simp only [aE (f:=aG) (e:=4) (fun _=>rfl)];omega)]<|zS<|zq<|zB 0 (zL (fun (i:Nat)=>(⟨[(53,ao ((0:Int) != (0:Int))),(7,ai 0),(9,AV.addr 9 0),(43,ao ((0:Int) != (0:Int))),(8,ai 0),(41,ai 0),(34,ao (e.prev != g.head)),(19,ao ((0:Int) != (0:Int))),(6,AV.ref 1015),(5,ai 0),(4,AV.addr 4 0),(3,AV.addr 3 0),(2,AV.addr 2 0),(0,AV.agg (bo g)),(1,AV.agg (aI e)),(11,ai i),(10,AV.ref 10)],[(9,⟨1,false,true,[ai (g.aA+1),aw (di e),ai G.br,AV.sl 4 (ae aG G.al),AV.sl 7 (ae a_ G.aL)]⟩),(1015,⟨1,true,false,ag (bN e)⟩),(4,⟨1,false,true,[ai 0,cN,ai 0,AV.nil,AV.nil]⟩),(3,⟨1,false,true,(aI e)⟩),(2,⟨1,false,true,List.map (aB 65) (List.map (aB 9) (List.map (aB 1015) (List.map (aB 4) (List.map (aB 3) (List.map (aB 2) (bo g))))))⟩),(10,⟨4,true,false,ae aG (ke G.al (e.aq.take i))⟩)]⟩:AS)) (fun i=>(i≤e.aq.length)) (fun i=>(e.aq.length-i)) (0) ?_ (zW [.vK 65 10,.aa [53,7,9,43,8,41,34,19,6,5,4,3,2,0,1,11,10] [9,1015,4,3,2,10]]) ?_)
 ·omega
 intro i hi
 refine zS<|bf.jZ 1 [{hs:=[(3,{k:=e.aq.length})]}] [.aa [70,53,7,9,43,8,41,34,19,6,5,4,3,2,0,1,11,10] [9,1015,4,3,2,10]] bt (s':=AS.mk [(70,ao (decide ((↑i:Int)<(↑e.aq.length:Int)))),(53,ao ((0:Int) != (0:Int))),(7,ai 0),(9,AV.addr 9 0),(43,ao ((0:Int) != (0:Int))),(8,ai 0),(41,ai 0),(34,ao (e.prev != g.head)),(19,ao ((0:Int) != (0:Int))),(6,AV.ref 1015),(5,ai 0),(4,AV.addr 4 0),(3,AV.addr 3 0),(2,AV.addr 2 0),(0,AV.agg (bo g)),(1,AV.agg (aI e)),(11,ai ↑i),(10,AV.ref 10)] [(9,Row.mk 1 false true [ai (g.aA+1),aw (di e),ai G.br,AV.sl 4 (ae aG G.al),AV.sl 7 (ae a_ G.aL)]),(1015,Row.mk 1 true false (ag (bN e))),(4,Row.mk 1 false true [ai 0,cN,ai 0,AV.nil,AV.nil]),(3,Row.mk 1 false true (aI e)),(2,Row.mk 1 false true (List.map (aB 65) (List.map (aB 9) (List.map (aB 1015) (List.map (aB 4) (List.map (aB 3) (List.map (aB 2) (bo g)))))))),(10,Row.mk 4 true false (ae aG (ke G.al (List.take i e.aq))))]) (C:=[(ae aU e.aq).length=e.aq.length*4]) bt ⟨yx,trivial⟩ (zD 70 ((↑i:Int)<(↑e.aq.length:Int)) (fun q=>?_) (fun q=>?_))
 ·have cX:i<e.aq.length:=ah
  have gh:=jt cX
  obtain ⟨l1,l2⟩:=Lm i cX
  have dC:=wJ G.al cX
  have hl:=ml i
  have z6:=ns (e.aq.take i) G.al
  generalize ke G.al (e.aq.take i)=M at *
  have EY:=my M (e.aq.getD i default).name ah
  obtain ⟨z,hz,RR⟩:∃z:Nat,(e.aq.getD i default).leaf=z∧z<16:=⟨(e.aq.getD i default).leaf.toNat,ah,ah⟩
  have RY:IntKind.u64.wrap (e.aq.getD i default).leaf=(z:Int):=by rw [hz,IntKind.wrap_u64];omega
  have SJ:AV.val (.int .u64 (IntKind.u64.wrap (wv 1*2^min ((z:Nat):Int).toNat IntKind.u64.bits)))=aw (gE (e.aq.getD i default).leaf):=by rw [jD 1 (z:Int) ah ah];unfold gE;rw [hz]
  rcases gI M (e.aq.getD i default).name with hm|⟨k,hm,iH,-⟩
  ·have hs:pU M (e.aq.getD i default)=M:=if_pos ah
   rw [hm] at EY
   refine aW<|zS<|zB 1<|zP 2 [yH [(4,{k:=i}),(6,yV (cQ (e.aq.getD i default).name)),(7,yV (ai (-1:Int)))],{}] [.aa [82,12,70,53,7,9,43,8,41,34,19,6,5,4,3,2,0,1,11,10] [9,1015,4,3,2,10]] [yR (↑i:Int),yO (i*4<(ae aU e.aq).length),yA aU e.aq i 0,yI EY]<|dq 82 ((-1:Int)≥0)<|zK<|aM<|ak<|zX (yH [(1,yV (ai ((↑i:Int)+1)))]) [yN ((↑i:Int)+1)] (aH (i+1) (by assumption) ah (eu [.aa [53,7,9,43,8,41,34,19,6,5,4,3,2,0,1,11,10] [9,1015,4,3,2,10]] [] [10] [yB (ae aG M=ae aG (ke G.al (List.take (i+1) e.aq))) (by rw [dC,hs])]))
  ·have Vb:=uD hm
   have hs:pU M (e.aq.getD i default)=M.set k {M.getD k default with used:=(M.getD k default).used|||gE (e.aq.getD i default).leaf}:=by unfold pU;rw [if_neg ah,Vb,hm];rfl
   rw [hm] at EY
   have Si:=mE iH
   have s1:=xa iH ((M.getD k default).used|||gE (e.aq.getD i default).leaf)
   rw [←hs,←dC] at s1
   refine aW<|zS<|zB 1<|zP 2 [yH [(4,{k:=i}),(6,yV (cQ (e.aq.getD i default).name)),(7,yV (ai ↑k))],{}] [.aa [82,12,70,53,7,9,43,8,41,34,19,6,5,4,3,2,0,1,11,10] [9,1015,4,3,2,10]] [yR (↑i:Int),yO (i*4<(ae aU e.aq).length),yA aU e.aq i 0,yI EY]<|gN 82 ((↑k:Int)≥0)<|zX ({hs:=[(2,{k:=k}),(4,yV (aw ((M.getD k default).used))),(8,{k:=i}),(11,yV (ai ((e.aq.getD i default).leaf))),(12,yV (AV.val (Value.int .u64 (↑z:Int)))),(13,yV (aw (gE (e.aq.getD i default).leaf))),(14,yV (aw ((M.getD k default).used|||gE (e.aq.getD i default).leaf))),(15,{k:=k}),(17,yV (AV.arr (ae aG (ke G.al (List.take (i+1) e.aq)))))],T:=14}) [yR (↑k:Int),yO (k*4<(ae aG M).length),yA aG M k 3,yR (↑i:Int),yO (i*4<(ae aU e.aq).length),yA aU e.aq i 1,yI (yd RY),yI SJ,yO ((0:Int)≤(↑z:Int)),yI (pL ((M.getD k default).used) (gE (e.aq.getD i default).leaf)),yR (↑k:Int),yO (k*4<(ae aG M).length),yI s1,yO (k*4+3+1≤(ae aG M).length)]<|aM<|ak<|zX (yH [(1,yV (ai ((↑i:Int)+1)))]) [yN ((↑i:Int)+1)] (aH (i+1) (by assumption) ah (zW [.aa [53,7,9,43,8,41,34,19,6,5,4,3,2,0,1,11,10] [9,1015,4,3,2,10]]))
 ·have ei:i=e.aq.length:=ah
  subst ei
  rw [List.take_length]
  refine bf.r9 [.gq 10] bt<|zE 0<|aS<|aK<|bg<|ak<|zP 2 [{},{}] [.aa [5,70,53,7,9,43,8,41,34,19,6,4,3,2,0,1,11,10] [4,9,1015,3,2]] [yL 4 5,yL 5 5]<|zR (zV [yJ (g.aA+1) e.aA (by rw [Pa]),yR (Value.int .u64 (wv (di e))),yR (Value.int .i64 G.br),yR (ae aG (ke G.al e.aq)),yR (ae a_ G.aL),yR (Value.int .i64 0)])
def wx (g:gp):Prop:=∀d∈g.aL,d.af.length≤1000000
theorem Ok {g:gp} {e:dP} (hG:mj g) (ht:e.kind=3->1≤e.br∧e.br≤8) (h:gL g e=0):(cS g e).al.length≤8∧0≤(cS g e).br∧(cS g e).br≤8∧(cS g e).aL.length≤8:=by
 obtain ⟨g1,g2,g3,g4,g5,g6⟩:=hG
 unfold cS
 rw [if_neg (fun q=>q h)]
 unfold gL at h
 by_cases c1:e.kind=1
 ·rw [if_pos c1] at h ⊢
  have hm:g.al.length<8:=by
   apply Classical.byContradiction;intro q
   split at h
   ·omega
   rw [if_pos ah] at h;omega
  refine ⟨by simp;omega,?_,?_,g6⟩
  ·show (0:Int)≤(if 2*g.br≤g.al.length+1 then g.br+1 else g.br)
   split<;>omega
  ·show (if 2*g.br≤g.al.length+1 then g.br+1 else g.br)≤(8:Int)
   split<;>omega
 rw [if_neg c1] at h ⊢
 by_cases c2:e.kind=2
 ·rw [if_pos c2]
  refine ⟨?_,g4,g5,g6⟩
  show (pG _ _).length≤8
  unfold pG
  simp only [List.length_append,List.length_take,List.length_drop];omega
 rw [if_neg c2] at h ⊢
 by_cases c3:e.kind=3
 ·rw [if_pos c3]
  have:=ht c3
  exact ⟨g3,by show 0≤e.br;omega,this.2,g6⟩
 rw [if_neg c3] at h ⊢
 by_cases c4:e.kind=4
 ·rw [if_pos c4] at h ⊢
  refine ⟨g3,g4,g5,?_⟩
  show (g.aL++ [e.dep]).length≤8
  split at h
  ·omega
  ·simp;omega
 rw [if_neg c4]
 exact ⟨g3,g4,g5,by show (q8 _ _ _).length≤8;unfold q8;simpa using g6⟩
theorem xw {g:gp} {e:dP} (h:fD g e=0):dH e=0∧e.aA=g.aA+1∧e.prev=g.head∧fB g (di e) e.aq=0∧gL g e=0:=by
 unfold fD at h
 by_cases c1:dH e=0
 case neg=>rw [if_pos c1] at h;exact absurd h c1
 rw [if_neg (fun q=>q c1)] at h
 by_cases c2:e.aA≠g.aA+1∨e.prev≠g.head
 ·rw [if_pos c2] at h;omega
 rw [if_neg c2] at h
 by_cases c3:fB g (di e) e.aq=0
 case neg=>rw [if_pos c3] at h;exact absurd h c3
 rw [if_neg (fun q=>q c3)] at h
 exact ⟨c1,ah,Classical.byContradiction fun q=>c2 (.inr q),c3,h⟩
theorem Ft {g:gp} {e:dP} (h:fD g e=0):ia g e=⟨e.aA,di e,(cS g e).br,ke (cS g e).al e.aq,(cS g e).aL⟩:=if_neg (fun q=>q h)
theorem tC {g:gp} {e:dP} (h:fD g e≠0):ia g e=g:=if_pos h
theorem J_ {g:gp} {e:dP} (hG:mj g) (h:fD g e=0):mj (ia g e):=by
 obtain ⟨h1,h2,h3,h4,h5⟩:=xw h
 obtain ⟨-,-,Rq,Th,-,-⟩:=qp h1
 obtain ⟨b1,b2,b3,b4⟩:=Ok hG (yQ h1) h5
 rw [Ft h]
 exact ⟨by show 0≤e.aA;omega,Th,by show (ke _ _).length≤8;rw [ns];exact b1,b2,b3,b4⟩
theorem wx.Uu {g:gp} {e:dP} (hG:wx g) (hB:e.dep.af.length≤1000000):wx (ia g e):=by
 unfold ia
 split
 ·exact hG
 show wx ⟨_,_,_,_,(cS g e).aL⟩
 intro d hd
 have hd:d∈(cS g e).aL:=hd
 unfold cS at hd
 split at hd
 ·exact hG d hd
 split at hd
 ·exact hG d hd
 split at hd
 ·exact hG d hd
 split at hd
 ·exact hG d hd
 split at hd
 ·rcases List.mem_append.1 hd with hd|hd
  ·exact hG d hd
  ·obtain rfl:=List.mem_singleton.1 hd;exact hB
 ·have hd:d∈q8 g.aL (vP g.aL e.bY) e.target:=hd
  unfold q8 at hd
  rcases List.mem_or_eq_of_mem_set hd with hd|rfl
  ·exact hG d hd
  ·show (g.aL.getD _ default).af.length≤_
   rw [List.getD_eq_getElem?_getD]
   by_cases c:vP g.aL e.bY<g.aL.length
   ·rw [List.getElem?_eq_getElem c];exact hG _ (List.getElem_mem c)
   ·rw [List.getElem?_eq_none ah];exact Nat.zero_le _
theorem J9 {g:gp} {e:dP} (hb:dH e=0) (he:e.aA=g.aA+1) (hp:e.prev=g.head):fD g e=if fB g (di e) e.aq≠0 then fB g (di e) e.aq else gL g e:=by
 unfold fD
 rw [if_neg (fun q=>q hb),if_neg (by rintro (q|q);exact q he;exact q hp)]
theorem Jg {e:dP} (k1:1≤e.kind) (k5:e.kind≤5) (hs:fk e) (e1:1≤e.aA) (e2:e.aA≤2147483647):dH e=fb e:=by
 unfold dH
 rw [if_neg ah,if_neg (fun q=>q hs),if_neg ah]
theorem J1 (A:Option Addr) (n c:Nat) (w:World) (hc:n≤c) (hm:c≤maxLen):Calls Tryz.prog 151 #[.slice A n c] w fun e w'=>e= .returned (.slice A n n)∧w'=w:=by
 go_enter Tryz.func151,Tryz.ntmps151
 go_wp2
 go_ret
 exact ⟨rfl,rfl⟩
theorem J0 (row:List AV):bC Tryz.prog 151 [.sl 4 row] (.pC 4 row):=by
 intro w S vs _ hS hl hr
 obtain ⟨a,rfl⟩:=Fq hl rfl
 cases hr 0 a _ rfl rfl with
 | sl A n c e us _ hl hn hc hm ha h =>
  refine (J1 A n c w hc hm).mono fun e w' ⟨he,hw⟩=>?_
  subst hw
  refine ⟨_,[],he,Below.refl _ _,List.nodup_nil,by simp,.inl (.inl (.rep (.pC A n 4 us row hl hn ah (fun h0=>?_) fun j u x hu hx=>(h j u x hu hx).mono fun b hb=>⟨.inl hb,rfl⟩)))⟩
  obtain ⟨ad,e1,e2,e3⟩:=ha h0
  exact ⟨ad,e1,.inl e2,e3⟩
theorem GV (A:Option Addr) (n c:Nat) (w:World) (hc:n≤c) (hm:c≤maxLen):Calls Tryz.prog 153 #[.slice A n c] w fun e w'=>e= .returned (.slice A n n)∧w'=w:=by
 go_enter Tryz.func153,Tryz.ntmps153
 go_wp2
 go_ret
 exact ⟨rfl,rfl⟩
theorem GU (row:List AV):bC Tryz.prog 153 [.sl 7 row] (.pC 7 row):=by
 intro w S vs _ hS hl hr
 obtain ⟨a,rfl⟩:=Fq hl rfl
 cases hr 0 a _ rfl rfl with
 | sl A n c e us _ hl hn hc hm ha h =>
  refine (GV A n c w hc hm).mono fun e w' ⟨he,hw⟩=>?_
  subst hw
  refine ⟨_,[],he,Below.refl _ _,List.nodup_nil,by simp,.inl (.inl (.rep (.pC A n 7 us row hl hn ah (fun h0=>?_) fun j u x hu hx=>(h j u x hu hx).mono fun b hb=>⟨.inl hb,rfl⟩)))⟩
  obtain ⟨ad,e1,e2,e3⟩:=ha h0
  exact ⟨ad,e1,.inl e2,e3⟩
end Go.Proofs.YtjgbhhnghedgdaaGreatDoor
