import Derived.Test.YtjgbhhnghedgdaaGreatDoorZaGrC1
import Derived.Test.YtjgbhhnghedgdaaGreatDoorZaGrR3
set_option linter.all false
namespace Go.Proofs.YtjgbhhnghedgdaaGreatDoor
open Go.RowKit
set_option maxRecDepth 100000
set_option maxHeartbeats 4000000
theorem wF {l:List Mem} {k:Nat} (hk:k<l.length) (u:UInt64):(af aH l).set (k*4+3) (aw u)=af aH (l.set k {l.getD k default with used:=u}):=by
 induction l generalizing k with
 | nil=>cases hk
 | cons m l ih =>
  cases k with
  | zero=>rfl
  | succ k =>
   have:=ih (k:=k) (by simpa using hk)
   rw [show (k+1)*4+3=k*4+3+4 by omega]
   show aH m++(af aH l).set (k*4+3) (aw u)=aH m++af aH (l.set k {l.getD k default with used:=u})
   rw [this]
theorem GX (l:List Mem) (v:gk):(pH l v).length=l.length:=by unfold pH;split<;>simp
theorem nc (vs:List gk):∀l:List Mem,(j8 l vs).length=l.length:=by
 induction vs with
 | nil=>intro l;rfl
 | cons v vs ih=>intro l;show (j8 (pH l v) vs).length=_;rw [ih,GX]
theorem vW (l:List Mem) {V:List gk} {i:Nat} (h:i<V.length):j8 l (V.take (i+1))=pH (j8 l (V.take i)) (V.getD i default):=by
 unfold j8
 rw [List.take_add_one,List.foldl_append,List.getD_eq_getElem?_getD,List.getElem?_eq_getElem h];rfl
theorem vS {g:gK} {w:UInt64} {V:List gk} (h:fv g w V=0) {i:Nat} (hi:i<V.length):0≤(V.getD i default).leaf∧(V.getD i default).leaf<16:=by
 have h0:ff (jV g w V) V.length=0:=by
  apply Classical.byContradiction;intro q
  unfold fv at h;rw [if_pos q] at h;exact q h
 have h1:jV g w V i=0:=ye h0 i hi
 unfold jV at h1
 split at h1
 ·omega
 split at h1
 ·omega
 split at h1
 ·rename_i q;exact absurd h1 q
 ·rename_i q;exact tB (Classical.not_not.1 q)
theorem Br (g:gK) (e:eF):(cQ g e).al.length≤g.al.length+1:=by
 unfold cQ po
 split
 ·omega
 split
 ·simp
 split
 ·simp only [List.length_append,List.length_take,List.length_drop];omega
 split
 ·simp
 split<;>simp
theorem qd {e:eF} (h:eu e=0):1≤e.kind∧e.kind≤5∧1≤e.aB∧e.aB≤2147483647∧eY e=0∧fe e:=by
 unfold eu at h
 by_cases k1:e.kind<1∨5<e.kind
 ·rw [if_pos k1] at h;omega
 rw [if_neg k1] at h
 by_cases c1:¬fe e
 ·rw [if_pos c1] at h;omega
 rw [if_neg c1] at h
 by_cases q1:e.aB<1∨2147483647<e.aB
 ·rw [if_pos q1] at h;omega
 rw [if_neg q1] at h
 exact ⟨ah,ah,ah,ah,h,Classical.not_not.1 c1⟩
theorem x7 {e:eF} (h:eu e=0) (k3:e.kind=3):1≤e.bt∧e.bt≤8:=by
 have hf:=(qd h).2.2.2.2.1
 unfold eY at hf
 rw [if_neg ah,if_neg ah,if_pos k3] at hf
 apply Classical.byContradiction;intro q
 rw [if_pos ah] at hf;omega
theorem pP (g:gK) (e:eF) (hG:nT g) (hB:mN e) (hv:e.aq.length≤1000000) (m9:bK Tryz.prog 40 [.agg (aT e)] (.bq [.own 1 (ag (fA e)),ai (eu e)])):bK Tryz.prog 31 [.agg (bB g),.agg (aT e)] (.bq [.agg (bB (iq g e)),ai (fI g e)]):=by
 have xR:(af a8 e.aq).length=e.aq.length*4:=aF (e:=4) (fun _=>rfl) ..
 by_cases cb:eu e=0
 case neg =>
  have ce:fI g e=eu e:=if_pos cb
  have cg:iq g e=g:=if_pos (by rw [ce];exact cb)
  rw [ce,cg]
  refine zO Tryz.func31 103<|zP 2 [{},yH [(1,yV (AV.bq [AV.own 1 (ag (fA e)),ai (eu e)]))]] [.ae [7,6,5,4,3,2,0,1] [1015,4,3,2]] [yI m9,yI (aR (fA e))]<|zS<|zQ 1 [yH [(1,yV (ao true))]] [yB (ao (eu e != (0:Int))=ao true) (by simp [cb])]<|zT 19<|zP 1 [{}] [.ae [5,19,7,6,4,3,2,0,1] [4,1015,3,2]] [yL 5 5]<|dk (bV)
 have pD:=uO e cb
 obtain ⟨k1,k5,Qh,SL,sH,To⟩:=qd cb
 have hw:IntKind.i64.wrap (g.aB+1)=g.aB+1:=by have:=hG.T0;have:=hG.Qh;rw [IntKind.wrap_i64];omega
 rw [cb] at m9
 by_cases c1:e.aB≠g.aB+1
 ·have ce:fI g e=42:=by unfold fI;rw [if_neg (fun q=>q cb),if_pos (.inl c1)]
  have cg:iq g e=g:=if_pos ah
  rw [ce,cg]
  have vl:(e.aB != g.aB+1)=true:=bne_iff_ne.2 c1
  refine zO Tryz.func31 103<|zP 2 [{},yH [(1,yV (AV.bq [AV.own 1 (ag (fA e)),ai 0]))]] [.ae [7,6,5,4,3,2,0,1] [1015,4,3,2]] [yI m9,yI (aR (fA e))]<|zS<|zq<|zF 19<|a_<|zS<|zP 1 [yH [(4,yV (ai (g.aB+1)))]] [.ae [34,19,7,6,5,4,3,2,0,1] [1015,4,3,2]] ([yI (yc hw)]++yM 6 (yI vl))<|zT 34<|zP 1 [{}] [.ae [5,34,19,7,6,4,3,2,0,1] [4,1015,3,2]] [yL 5 5]<|dk (bV)
 have OL:e.aB=g.aB+1:=ah
 have vl:(e.aB != g.aB+1)=false:=by rw [OL];simp
 by_cases c2:e.prev=g.head
 case neg =>
  have ce:fI g e=42:=by unfold fI;rw [if_neg (fun q=>q cb),if_pos (.inr c2)]
  have cg:iq g e=g:=if_pos ah
  rw [ce,cg]
  have SP:(e.prev != g.head)=true:=bne_iff_ne.2 c2
  refine zO Tryz.func31 103<|zP 2 [{},yH [(1,yV (AV.bq [AV.own 1 (ag (fA e)),ai 0]))]] [.ae [7,6,5,4,3,2,0,1] [1015,4,3,2]] [yI m9,yI (aR (fA e))]<|zS<|zq<|zF 19<|a_<|zS<|zP 1 [yH ([(4,yV (ai (g.aB+1))),(11,{av:=some (ao (e.prev != g.head)),g:=false}),(12,{b:=false})]++yg [7,8,9,10])] [.ae [34,19,7,6,5,4,3,2,0,1] [1015,4,3,2]] ([yN (g.aB+1)]++yM 5 (yI vl)++ [yI (cJ e.prev g.head),yI vl])<|du 34 (e.prev != g.head) (by assumption)<|zP 1 [{}] [.ae [5,34,19,7,6,4,3,2,0,1] [4,1015,3,2]] [yL 5 5]<|dk (bV)
 have SP:(e.prev != g.head)=false:=by rw [c2];simp
 have Gn:fI g e=if fv g (de e) e.aq≠0 then fv g (de e) e.aq else gI g e:=by unfold fI;rw [if_neg (fun q=>q cb),if_neg (by rintro (q|q);exact q OL;exact q c2)]
 have KX:=oH (fA e) ah
 rw [show hash 16 (fA e)=de e from rfl] at KX
 have m8:=hG.m8
 have BE:=xn g (de e) e.aq ah hv
 by_cases c3:fv g (de e) e.aq=0
 case neg =>
  rw [if_pos c3] at Gn
  have cg:iq g e=g:=if_pos (by rw [Gn];exact c3)
  rw [Gn,cg]
  refine zO Tryz.func31 103<|zP 2 [{},yH [(1,yV (AV.bq [AV.own 1 (ag (fA e)),ai 0]))]] [.ae [7,6,5,4,3,2,0,1] [1015,4,3,2]] [yI m9,yI (aR (fA e))]<|zS<|zQ 1 [yH [(1,yV (ao false))]] [yR (ao false)]<|zF 19<|a_<|zS<|zP 1 [yH ([(4,yV (ai (g.aB+1))),(11,{av:=some (ao (e.prev != g.head)),g:=false}),(12,{b:=false})]++yg [7,8,9,10])] [.ae [34,19,7,6,5,4,3,2,0,1] [1015,4,3,2]] ([yN (g.aB+1)]++yM 5 (yI vl)++ [yI (cJ e.prev g.head),yI vl])<|bj 34 (e.prev != g.head) (by assumption)<|a_<|zS<|zP 2 [{hs:=[(4,yV (aw (de e))),(5,yV (ai (fv g (de e) e.aq)))],T:=5},yH [(1,yV (ao true))]] [.ae [43,8,41,34,19,7,6,5,4,3,2,0,1] [1015,4,3,2]] [yI KX,yI BE,yB (ao (fv g (de e) e.aq != (0:Int))=ao true) (by simp [c3])]<|zT 43<|zP 1 [{}] [.ae [5,43,8,41,34,19,7,6,4,3,2,0,1] [4,1015,3,2]] [yL 5 5]<|dk (bV)
 have K0:=fun i hi=>vS c3 (i:=i) hi
 rw [if_neg (fun q=>q c3)] at Gn
 rw [c3] at BE
 have vJ:=vB g e hG k1 k5 (x7 cb) (by have:=hB.dep.zb;omega)
 rw [←Gn] at vJ
 by_cases c4:fI g e=0
 case neg =>
  have cg:iq g e=g:=if_pos c4
  rw [cg]
  refine zO Tryz.func31 103<|zP 2 [{},yH [(1,yV (AV.bq [AV.own 1 (ag (fA e)),ai 0]))]] [.ae [7,6,5,4,3,2,0,1] [1015,4,3,2]] [yI m9,yI (aR (fA e))]<|zS<|zQ 1 [yH [(1,yV (ao false))]] [yR (ao false)]<|zF 19<|a_<|zS<|zP 1 [yH ([(4,yV (ai (g.aB+1))),(11,{av:=some (ao (e.prev != g.head)),g:=false}),(12,{b:=false})]++yg [7,8,9,10])] [.ae [34,19,7,6,5,4,3,2,0,1] [1015,4,3,2]] ([yN (g.aB+1)]++yM 5 (yI vl)++ [yI (cJ e.prev g.head),yI vl])<|bj 34 (e.prev != g.head) (by assumption)<|a_<|zS<|zP 2 [{hs:=[(4,yV (aw (de e))),(5,yV (ai 0))],T:=5},yH [(1,yV (ao false))]] [.ae [43,8,41,34,19,7,6,5,4,3,2,0,1] [1015,4,3,2]] [yI KX,yI BE,yR (ao false)]<|zF 43<|a_<|zP 1 [yH [(2,{av:=some (AV.bq [AV.agg (bB (cQ g e)),ai (fI g e)]),b:=false})]] [.ae [7,9,43,8,41,34,19,6,5,4,3,2,0,1] [9,1015,4,3,2]] [yI vJ,yL 5 5]<|zS<|zQ 1 [yH [(1,yV (ao true))]] [yB (ao (fI g e != (0:Int))=ao true) (by simp [c4])]<|zT 53<|zP 1 [{}] [.ae [5,53,7,9,43,8,41,34,19,6,4,3,2,0,1] [4,9,1015,3,2]] [yL 5 5]<|dk (bV)
 have cg:iq g e=⟨e.aB,de e,(cQ g e).bt,j8 (cQ g e).al e.aq,(cQ g e).aK⟩:=if_neg (fun q=>q c4)
 rw [cg,c4]
 rw [c4] at vJ
 have gl:=Br g e
 generalize cQ g e=G at *
 have mb:∀i,(af aH (j8 G.al (e.aq.take i))).length=G.al.length*4:=fun i=>by rw [aF (e:=4) (fun _=>rfl),nc]
 clear Gn cg
 refine zO Tryz.func31 103<|zP 2 [{},yH [(1,yV (AV.bq [AV.own 1 (ag (fA e)),ai 0]))]] [.ae [7,6,5,4,3,2,0,1] [1015,4,3,2]] [yI m9,yI (aR (fA e))]<|zS<|zq<|zF 19<|a_<|zS<|zP 1 [yH ([(4,yV (ai (g.aB+1))),(11,{av:=some (ao (e.prev != g.head)),g:=false}),(12,{b:=false})]++yg [7,8,9,10])] [.ae [34,19,7,6,5,4,3,2,0,1] [1015,4,3,2]] ([yN (g.aB+1)]++yM 5 (yI vl)++ [yI (cJ e.prev g.head),yI vl])<|bj 34 (e.prev != g.head) (by assumption)<|a_<|zS<|zP 2 [{hs:=[(4,yV (aw (de e))),(5,yV (ai 0))],T:=5},{}] [.ae [43,8,41,34,19,7,6,5,4,3,2,0,1] [1015,4,3,2]] [yI KX,yI BE]<|zF 43<|a_<|zP 1 [yH [(2,{av:=some (AV.bq [AV.agg (bB G),ai 0]),b:=false})]] [.ae [7,9,43,8,41,34,19,6,5,4,3,2,0,1] [9,1015,4,3,2]] [yI vJ,yL 5 5]<|zS<|zq<|zF 53<|a_<|zP 2 [{hs:=[(2,yV (ai (g.aB+1))),(4,yV (aw (de e)))],T:=6},yH [(2,{b:=false})]] [.ae [10,53,7,9,43,8,41,34,19,6,5,4,3,2,0,1] [65,9,1015,4,3,2]] [yN (g.aB+1),yI KX,yL 1 5,yL 2 5,yB (cE (af aH G.al)) (dD (fun x=>dJ rfl) _),yB ((0+(af aH G.al).length)*40≤562949953421312) (by simp only [aF (f:=aH) (e:=4) (fun _=>rfl)];omega)]<|zS<|zq<|zB 0 (zL (fun (i:Nat)=>(⟨[(53,ao ((0:Int) != (0:Int))),(7,ai 0),(9,AV.addr 9 0),(43,ao ((0:Int) != (0:Int))),(8,ai 0),(41,ai 0),(34,ao (e.prev != g.head)),(19,ao ((0:Int) != (0:Int))),(6,AV.ref 1015),(5,ai 0),(4,AV.addr 4 0),(3,AV.addr 3 0),(2,AV.addr 2 0),(0,AV.agg (bB g)),(1,AV.agg (aT e)),(11,ai i),(10,AV.ref 10)],[(9,⟨1,false,true,[ai (g.aB+1),aw (de e),ai G.bt,AV.sl 4 (af aH G.al),AV.sl 7 (af bc G.aK)]⟩),(1015,⟨1,true,false,ag (fA e)⟩),(4,⟨1,false,true,[ai 0,cO,ai 0,AV.nil,AV.nil]⟩),(3,⟨1,false,true,(aT e)⟩),(2,⟨1,false,true,List.map (aD 65) (List.map (aD 9) (List.map (aD 1015) (List.map (aD 4) (List.map (aD 3) (List.map (aD 2) (bB g))))))⟩),(10,⟨4,true,false,af aH (j8 G.al (e.aq.take i))⟩)]⟩:AS)) (fun i=>(i≤e.aq.length)) (fun i=>(e.aq.length-i)) (0) ?_ (zW [.vo 65 10,.ae [53,7,9,43,8,41,34,19,6,5,4,3,2,0,1,11,10] [9,1015,4,3,2,10]]) ?_)
 ·omega
 intro i hi
 refine zS<|bf.jW 1 [{hs:=[(3,{k:=e.aq.length})]}] [.ae [70,53,7,9,43,8,41,34,19,6,5,4,3,2,0,1,11,10] [9,1015,4,3,2,10]] bh (s':=AS.mk [(70,ao (decide ((↑i:Int)<(↑e.aq.length:Int)))),(53,ao ((0:Int) != (0:Int))),(7,ai 0),(9,AV.addr 9 0),(43,ao ((0:Int) != (0:Int))),(8,ai 0),(41,ai 0),(34,ao (e.prev != g.head)),(19,ao ((0:Int) != (0:Int))),(6,AV.ref 1015),(5,ai 0),(4,AV.addr 4 0),(3,AV.addr 3 0),(2,AV.addr 2 0),(0,AV.agg (bB g)),(1,AV.agg (aT e)),(11,ai ↑i),(10,AV.ref 10)] [(9,Row.mk 1 false true [ai (g.aB+1),aw (de e),ai G.bt,AV.sl 4 (af aH G.al),AV.sl 7 (af bc G.aK)]),(1015,Row.mk 1 true false (ag (fA e))),(4,Row.mk 1 false true [ai 0,cO,ai 0,AV.nil,AV.nil]),(3,Row.mk 1 false true (aT e)),(2,Row.mk 1 false true (List.map (aD 65) (List.map (aD 9) (List.map (aD 1015) (List.map (aD 4) (List.map (aD 3) (List.map (aD 2) (bB g)))))))),(10,Row.mk 4 true false (af aH (j8 G.al (List.take i e.aq))))]) (C:=[(af a8 e.aq).length=e.aq.length*4]) bh ⟨xR,trivial⟩ (zD 70 ((↑i:Int)<(↑e.aq.length:Int)) (fun q=>?_) (fun q=>?_))
 ·have dz:i<e.aq.length:=ah
  have gh:=k9 dz
  obtain ⟨l1,l2⟩:=K0 i dz
  have dP:=vW G.al dz
  have hl:=mb i
  have za:=nc (e.aq.take i) G.al
  generalize j8 G.al (e.aq.take i)=M at *
  have Ev:=mj M (e.aq.getD i default).name ah
  obtain ⟨z,hz,Rr⟩:∃z:Nat,(e.aq.getD i default).leaf=z∧z<16:=⟨(e.aq.getD i default).leaf.toNat,ah,ah⟩
  have Rx:IntKind.u64.wrap (e.aq.getD i default).leaf=(z:Int):=by rw [hz,IntKind.wrap_u64];omega
  have Sk:AV.val (.int .u64 (IntKind.u64.wrap (wv 1*2^min ((z:Nat):Int).toNat IntKind.u64.bits)))=aw (gA (e.aq.getD i default).leaf):=by rw [jB 1 (z:Int) ah ah];unfold gA;rw [hz]
  rcases gF M (e.aq.getD i default).name with hm|⟨k,hm,iG,-⟩
  ·have hs:pH M (e.aq.getD i default)=M:=if_pos ah
   rw [hm] at Ev
   refine a_<|zS<|zB 1<|zP 2 [yH [(4,{k:=i}),(6,yV (db (e.aq.getD i default).name)),(7,yV (ai (-1:Int)))],{}] [.ae [82,12,70,53,7,9,43,8,41,34,19,6,5,4,3,2,0,1,11,10] [9,1015,4,3,2,10]] [yR (↑i:Int),yO (i*4<(af a8 e.aq).length),yA a8 e.aq i 0,yI Ev]<|dp 82 ((-1:Int)≥0)<|zK<|aM<|ak<|zX (yH [(1,yV (ai ((↑i:Int)+1)))]) [yN ((↑i:Int)+1)] (aJ (i+1) (by assumption) ah (eK [.ae [53,7,9,43,8,41,34,19,6,5,4,3,2,0,1,11,10] [9,1015,4,3,2,10]] [] [10] [yB (af aH M=af aH (j8 G.al (List.take (i+1) e.aq))) (by rw [dP,hs])]))
  ·have UK:=ui hm
   have hs:pH M (e.aq.getD i default)=M.set k {M.getD k default with used:=(M.getD k default).used|||gA (e.aq.getD i default).leaf}:=by unfold pH;rw [if_neg ah,UK,hm];rfl
   rw [hm] at Ev
   have RU:=mu iG
   have s1:=wF iG ((M.getD k default).used|||gA (e.aq.getD i default).leaf)
   rw [←hs,←dP] at s1
   refine a_<|zS<|zB 1<|zP 2 [yH [(4,{k:=i}),(6,yV (db (e.aq.getD i default).name)),(7,yV (ai ↑k))],{}] [.ae [82,12,70,53,7,9,43,8,41,34,19,6,5,4,3,2,0,1,11,10] [9,1015,4,3,2,10]] [yR (↑i:Int),yO (i*4<(af a8 e.aq).length),yA a8 e.aq i 0,yI Ev]<|gT 82 ((↑k:Int)≥0)<|zX ({hs:=[(2,{k:=k}),(4,yV (aw ((M.getD k default).used))),(8,{k:=i}),(11,yV (ai ((e.aq.getD i default).leaf))),(12,yV (AV.val (Value.int .u64 (↑z:Int)))),(13,yV (aw (gA (e.aq.getD i default).leaf))),(14,yV (aw ((M.getD k default).used|||gA (e.aq.getD i default).leaf))),(15,{k:=k}),(17,yV (AV.arr (af aH (j8 G.al (List.take (i+1) e.aq)))))],T:=14}) [yR (↑k:Int),yO (k*4<(af aH M).length),yA aH M k 3,yR (↑i:Int),yO (i*4<(af a8 e.aq).length),yA a8 e.aq i 1,yI (yd Rx),yI Sk,yO ((0:Int)≤(↑z:Int)),yI (pw ((M.getD k default).used) (gA (e.aq.getD i default).leaf)),yR (↑k:Int),yO (k*4<(af aH M).length),yI s1,yO (k*4+3+1≤(af aH M).length)]<|aM<|ak<|zX (yH [(1,yV (ai ((↑i:Int)+1)))]) [yN ((↑i:Int)+1)] (aJ (i+1) (by assumption) ah (zW [.ae [53,7,9,43,8,41,34,19,6,5,4,3,2,0,1,11,10] [9,1015,4,3,2,10]]))
 ·have ei:i=e.aq.length:=ah
  subst ei
  rw [List.take_length]
  refine bf.sv [.gN 10] bh<|zE 0<|a7<|aO<|bn<|ak<|zP 2 [{},{}] [.ae [5,70,53,7,9,43,8,41,34,19,6,4,3,2,0,1,11,10] [4,9,1015,3,2]] [yL 4 5,yL 5 5]<|zR (zV [yJ (g.aB+1) e.aB (by rw [OL]),yR (Value.int .u64 (wv (de e))),yR (Value.int .i64 G.bt),yR (af aH (j8 G.al e.aq)),yR (af bc G.aK),yR (Value.int .i64 0)])
def DH (g:gK):Prop:=∀d∈g.aK,d.aa.length≤1000000
theorem NR {g:gK} {e:eF} (hG:nT g) (ht:e.kind=3->1≤e.bt∧e.bt≤8) (h:gI g e=0):(cQ g e).al.length≤8∧0≤(cQ g e).bt∧(cQ g e).bt≤8∧(cQ g e).aK.length≤8:=by
 obtain ⟨g1,g2,g3,g4,g5,g6⟩:=hG
 unfold cQ
 rw [if_neg (fun q=>q h)]
 unfold gI at h
 by_cases c1:e.kind=1
 ·rw [if_pos c1] at h ⊢
  have hm:g.al.length<8:=by
   apply Classical.byContradiction;intro q
   split at h
   ·omega
   rw [if_pos ah] at h;omega
  refine ⟨by simp;omega,?_,?_,g6⟩
  ·show (0:Int)≤(if 2*g.bt≤g.al.length+1 then g.bt+1 else g.bt)
   split<;>omega
  ·show (if 2*g.bt≤g.al.length+1 then g.bt+1 else g.bt)≤(8:Int)
   split<;>omega
 rw [if_neg c1] at h ⊢
 by_cases c2:e.kind=2
 ·rw [if_pos c2]
  refine ⟨?_,g4,g5,g6⟩
  show (po _ _).length≤8
  unfold po
  simp only [List.length_append,List.length_take,List.length_drop];omega
 rw [if_neg c2] at h ⊢
 by_cases c3:e.kind=3
 ·rw [if_pos c3]
  have:=ht c3
  exact ⟨g3,by show 0≤e.bt;omega,this.2,g6⟩
 rw [if_neg c3] at h ⊢
 by_cases c4:e.kind=4
 ·rw [if_pos c4] at h ⊢
  refine ⟨g3,g4,g5,?_⟩
  show (g.aK++ [e.dep]).length≤8
  split at h
  ·omega
  ·simp;omega
 rw [if_neg c4]
 exact ⟨g3,g4,g5,by show (qP _ _ _).length≤8;unfold qP;simpa using g6⟩
theorem wW {g:gK} {e:eF} (h:fI g e=0):eu e=0∧e.aB=g.aB+1∧e.prev=g.head∧fv g (de e) e.aq=0∧gI g e=0:=by
 unfold fI at h
 by_cases c1:eu e=0
 case neg=>rw [if_pos c1] at h;exact absurd h c1
 rw [if_neg (fun q=>q c1)] at h
 by_cases c2:e.aB≠g.aB+1∨e.prev≠g.head
 ·rw [if_pos c2] at h;omega
 rw [if_neg c2] at h
 by_cases c3:fv g (de e) e.aq=0
 case neg=>rw [if_pos c3] at h;exact absurd h c3
 rw [if_neg (fun q=>q c3)] at h
 exact ⟨c1,ah,Classical.byContradiction fun q=>c2 (.inr q),c3,h⟩
theorem EU {g:gK} {e:eF} (h:fI g e=0):iq g e=⟨e.aB,de e,(cQ g e).bt,j8 (cQ g e).al e.aq,(cQ g e).aK⟩:=if_neg (fun q=>q h)
theorem ti {g:gK} {e:eF} (h:fI g e≠0):iq g e=g:=if_pos h
theorem JL {g:gK} {e:eF} (hG:nT g) (h:fI g e=0):nT (iq g e):=by
 obtain ⟨h1,h2,h3,h4,h5⟩:=wW h
 obtain ⟨-,-,Qh,SL,-,-⟩:=qd h1
 obtain ⟨b1,b2,b3,b4⟩:=NR hG (x7 h1) h5
 rw [EU h]
 exact ⟨by show 0≤e.aB;omega,SL,by show (j8 _ _).length≤8;rw [nc];exact b1,b2,b3,b4⟩
theorem DH.T6 {g:gK} {e:eF} (hG:DH g) (hB:e.dep.aa.length≤1000000):DH (iq g e):=by
 unfold iq
 split
 ·exact hG
 show DH ⟨_,_,_,_,(cQ g e).aK⟩
 intro d hd
 have hd:d∈(cQ g e).aK:=hd
 unfold cQ at hd
 split at hd
 ·exact hG d hd
 split at hd
 ·exact hG d hd
 split at hd
 ·exact hG d hd
 split at hd
 ·exact hG d hd
 split at hd
 ·rcases List.mem_append.1 hd with hd|hd
  ·exact hG d hd
  ·obtain rfl:=List.mem_singleton.1 hd;exact hB
 ·have hd:d∈qP g.aK (vr g.aK e.bR) e.target:=hd
  unfold qP at hd
  rcases List.mem_or_eq_of_mem_set hd with hd|rfl
  ·exact hG d hd
  ·show (g.aK.getD _ default).aa.length≤_
   rw [List.getD_eq_getElem?_getD]
   by_cases c:vr g.aK e.bR<g.aK.length
   ·rw [List.getElem?_eq_getElem c];exact hG _ (List.getElem_mem c)
   ·rw [List.getElem?_eq_none ah];exact Nat.zero_le _
theorem JK {g:gK} {e:eF} (hb:eu e=0) (he:e.aB=g.aB+1) (hp:e.prev=g.head):fI g e=if fv g (de e) e.aq≠0 then fv g (de e) e.aq else gI g e:=by
 unfold fI
 rw [if_neg (fun q=>q hb),if_neg (by rintro (q|q);exact q he;exact q hp)]
theorem IK {e:eF} (k1:1≤e.kind) (k5:e.kind≤5) (hs:fe e) (e1:1≤e.aB) (e2:e.aB≤2147483647):eu e=eY e:=by
 unfold eu
 rw [if_neg ah,if_neg (fun q=>q hs),if_neg ah]
theorem JA (A:Option Addr) (n c:Nat) (w:World) (hc:n≤c) (hm:c≤maxLen):Calls Tryz.prog 151 #[.slice A n c] w fun e w'=>e= .returned (.slice A n n)∧w'=w:=by
 go_enter Tryz.func151,Tryz.ntmps151
 go_wp2
 go_ret
 exact ⟨rfl,rfl⟩
theorem Jz (row:List AV):bK Tryz.prog 151 [.sl 4 row] (.pg 4 row):=by
 intro w S vs _ hS hl hr
 obtain ⟨a,rfl⟩:=ET hl rfl
 cases hr 0 a _ rfl rfl with
 | sl A n c e us _ hl hn hc hm ha h =>
  refine (JA A n c w hc hm).mono fun e w' ⟨he,hw⟩=>?_
  subst hw
  refine ⟨_,[],he,Below.refl _ _,List.nodup_nil,by simp,.inl (.inl (.rep (.pg A n 4 us row hl hn ah (fun h0=>?_) fun j u x hu hx=>(h j u x hu hx).mono fun b hb=>⟨.inl hb,rfl⟩)))⟩
  obtain ⟨ad,e1,e2,e3⟩:=ha h0
  exact ⟨ad,e1,.inl e2,e3⟩
theorem Gm (A:Option Addr) (n c:Nat) (w:World) (hc:n≤c) (hm:c≤maxLen):Calls Tryz.prog 153 #[.slice A n c] w fun e w'=>e= .returned (.slice A n n)∧w'=w:=by
 go_enter Tryz.func153,Tryz.ntmps153
 go_wp2
 go_ret
 exact ⟨rfl,rfl⟩
theorem Gl (row:List AV):bK Tryz.prog 153 [.sl 7 row] (.pg 7 row):=by
 intro w S vs _ hS hl hr
 obtain ⟨a,rfl⟩:=ET hl rfl
 cases hr 0 a _ rfl rfl with
 | sl A n c e us _ hl hn hc hm ha h =>
  refine (Gm A n c w hc hm).mono fun e w' ⟨he,hw⟩=>?_
  subst hw
  refine ⟨_,[],he,Below.refl _ _,List.nodup_nil,by simp,.inl (.inl (.rep (.pg A n 7 us row hl hn ah (fun h0=>?_) fun j u x hu hx=>(h j u x hu hx).mono fun b hb=>⟨.inl hb,rfl⟩)))⟩
  obtain ⟨ad,e1,e2,e3⟩:=ha h0
  exact ⟨ad,e1,.inl e2,e3⟩
end Go.Proofs.YtjgbhhnghedgdaaGreatDoor
