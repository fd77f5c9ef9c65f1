import Derived.Test.YtjgbhhnghedgdaaGreatDoorZfGrC1
import Derived.Test.YtjgbhhnghedgdaaGreatDoorZfGrR3
set_option linter.all false
namespace Go.Proofs.YtjgbhhnghedgdaaGreatDoor
open Go.RowKit
set_option maxRecDepth 100000
set_option maxHeartbeats 4000000
theorem xR {l:List Mem} {k:Nat} (hk:k<l.length) (u:UInt64):(ae aN l).set (k*4+3) (aw u)=ae aN (l.set k {l.getD k default with used:=u}):=by
 induction l generalizing k with
 | nil=>cases hk
 | cons m l ih =>
  cases k with
  | zero=>rfl
  | succ k =>
   have:=ih (k:=k) (by simpa using hk)
   rw [show (k+1)*4+3=k*4+3+4 by omega]
   show aN m++(ae aN l).set (k*4+3) (aw u)=aN m++ae aN (l.set k {l.getD k default with used:=u})
   rw [this]
theorem Ie (l:List Mem) (v:gW):(nJ l v).length=l.length:=by unfold nJ;split<;>simp
theorem kN (vs:List gW):∀l:List Mem,(iz l vs).length=l.length:=by
 induction vs with
 | nil=>intro l;rfl
 | cons v vs ih=>intro l;show (iz (nJ l v) vs).length=_;rw [ih,Ie]
theorem xu (l:List Mem) {V:List gW} {i:Nat} (h:i<V.length):iz l (V.take (i+1))=nJ (iz l (V.take i)) (V.getD i default):=by
 unfold iz
 rw [List.take_add_one,List.foldl_append,List.getD_eq_getElem?_getD,List.getElem?_eq_getElem h];rfl
theorem rC {g:fG} {w:UInt64} {V:List gW} (h:fH g w V=0) {i:Nat} (hi:i<V.length):0≤(V.getD i default).leaf∧(V.getD i default).leaf<16:=by
 have h0:ff (iJ g w V) V.length=0:=by
  apply Classical.byContradiction;intro q
  unfold fH at h;rw [if_pos q] at h;exact q h
 have h1:iJ g w V i=0:=sq h0 i hi
 unfold iJ at h1
 split at h1
 ·omega
 split at h1
 ·omega
 split at h1
 ·rename_i q;exact absurd h1 q
 ·rename_i q;exact uH (Classical.not_not.1 q)
theorem CK (g:fG) (e:dj):(cw g e).aq.length≤g.aq.length+1:=by
 unfold cw ke
 split
 ·omega
 split
 ·simp
 split
 ·simp only [List.length_append,List.length_take,List.length_drop];omega
 split
 ·simp
 split<;>simp
theorem mu {e:dj} (h:eO e=0):1≤e.kind∧e.kind≤5∧1≤e.aC∧e.aC≤2147483647∧ft e=0∧fW e:=by
 unfold eO at h
 by_cases k1:e.kind<1∨5<e.kind
 ·rw [if_pos k1] at h;omega
 rw [if_neg k1] at h
 by_cases c1:¬fW e
 ·rw [if_pos c1] at h;omega
 rw [if_neg c1] at h
 by_cases q1:e.aC<1∨2147483647<e.aC
 ·rw [if_pos q1] at h;omega
 rw [if_neg q1] at h
 exact ⟨ag,ag,ag,ag,h,Classical.not_not.1 c1⟩
theorem qQ {e:dj} (h:eO e=0) (k3:e.kind=3):1≤e.bm∧e.bm≤8:=by
 have hf:=(mu h).2.2.2.2.1
 unfold ft at hf
 rw [if_neg ag,if_neg ag,if_pos k3] at hf
 apply Classical.byContradiction;intro q
 rw [if_pos ag] at hf;omega
theorem y_ (g:fG) (e:dj) (hG:ni g) (hB:l8 e) (hv:e.ak.length≤1000000) (lH:bA Tryz.prog 40 [.agg (aG e)] (.b_ [.own 1 (ah (dM e)),ai (eO e)])):bA Tryz.prog 31 [.agg (de g),.agg (aG e)] (.b_ [.agg (de (ga g e)),ai (eW g e)]):=by
 have xW:(ae aW e.ak).length=e.ak.length*4:=aA (e:=4) (fun _=>rfl) ..
 by_cases cb:eO e=0
 case neg =>
  have ce:eW g e=eO e:=if_pos cb
  have cg:ga g e=g:=if_pos (by rw [ce];exact cb)
  rw [ce,cg]
  refine zO Tryz.func31 103<|zP 2 [{},yH [(1,yC lH)]] [.aa [7,6,5,4,3,2,0,1] [1015,4,3,2]] [yI lH,yI (aQ (dM e))]<|zS<|zQ 1 [yH [(1,yV (ao true))]] [yB (ao (eO e != (0:Int))=ao true) (by simp [cb])]<|zT 19<|zP 1 [{}] [.aa [5,19,7,6,4,3,2,0,1] [4,1015,3,2]] [yL 5 5]<|dk (bL)
 have nG:=qR e cb
 obtain ⟨k1,k5,SC,Us,vO,U2⟩:=mu cb
 have hw:IntKind.i64.wrap (g.aC+1)=g.aC+1:=by have:=hG.Xn;have:=hG.SC;rw [IntKind.wrap_i64];omega
 rw [cb] at lH
 by_cases c1:e.aC≠g.aC+1
 ·have ce:eW g e=42:=by unfold eW;rw [if_neg (fun q=>q cb),if_pos (.inl c1)]
  have cg:ga g e=g:=if_pos ag
  rw [ce,cg]
  have wM:(e.aC != g.aC+1)=true:=bne_iff_ne.2 c1
  refine zO Tryz.func31 103<|zP 2 [{},yH [(1,yC lH)]] [.aa [7,6,5,4,3,2,0,1] [1015,4,3,2]] [yI lH,yI (aQ (dM e))]<|zS<|zq<|zF 19<|a6<|zS<|zP 1 [yH [(4,yV (ai (g.aC+1)))]] [.aa [34,19,7,6,5,4,3,2,0,1] [1015,4,3,2]] ([yI (yc hw)]++yM 6 (yI wM))<|zT 34<|zP 1 [{}] [.aa [5,34,19,7,6,4,3,2,0,1] [4,1015,3,2]] [yL 5 5]<|dk (bL)
 have Qo:e.aC=g.aC+1:=ag
 have wM:(e.aC != g.aC+1)=false:=by rw [Qo];simp
 by_cases c2:e.prev=g.head
 case neg =>
  have ce:eW g e=42:=by unfold eW;rw [if_neg (fun q=>q cb),if_pos (.inr c2)]
  have cg:ga g e=g:=if_pos ag
  rw [ce,cg]
  have Uv:(e.prev != g.head)=true:=bne_iff_ne.2 c2
  refine zO Tryz.func31 103<|zP 2 [{},yH [(1,yC lH)]] [.aa [7,6,5,4,3,2,0,1] [1015,4,3,2]] [yI lH,yI (aQ (dM e))]<|zS<|zq<|zF 19<|a6<|zS<|zP 1 [yH ([(4,yV (ai (g.aC+1))),(11,{av:=some (ao (e.prev != g.head)),g:=false}),(12,{b:=false})]++yg [7,8,9,10])] [.aa [34,19,7,6,5,4,3,2,0,1] [1015,4,3,2]] ([yN (g.aC+1)]++yM 5 (yI wM)++ [yI (cK e.prev g.head),yI wM])<|du 34 (e.prev != g.head) (by assumption)<|zP 1 [{}] [.aa [5,34,19,7,6,4,3,2,0,1] [4,1015,3,2]] [yL 5 5]<|dk (bL)
 have Uv:(e.prev != g.head)=false:=by rw [c2];simp
 have HM:eW g e=if fH g (cO e) e.ak≠0 then fH g (cO e) e.ak else gT g e:=by unfold eW;rw [if_neg (fun q=>q cb),if_neg (by rintro (q|q);exact q Qo;exact q c2)]
 have DP:=lS (dM e) ag
 rw [show hash 16 (dM e)=cO e from rfl] at DP
 have m8:=hG.m8
 have rB:=y0 g (cO e) e.ak ag hv
 by_cases c3:fH g (cO e) e.ak=0
 case neg =>
  rw [if_pos c3] at HM
  have cg:ga g e=g:=if_pos (by rw [HM];exact c3)
  rw [HM,cg]
  refine zO Tryz.func31 103<|zP 2 [{},yH [(1,yC lH)]] [.aa [7,6,5,4,3,2,0,1] [1015,4,3,2]] [yI lH,yI (aQ (dM e))]<|zS<|zQ 1 [yH [(1,yV (ao false))]] [yR (ao false)]<|zF 19<|a6<|zS<|zP 1 [yH ([(4,yV (ai (g.aC+1))),(11,{av:=some (ao (e.prev != g.head)),g:=false}),(12,{b:=false})]++yg [7,8,9,10])] [.aa [34,19,7,6,5,4,3,2,0,1] [1015,4,3,2]] ([yN (g.aC+1)]++yM 5 (yI wM)++ [yI (cK e.prev g.head),yI wM])<|bj 34 (e.prev != g.head) (by assumption)<|a6<|zS<|zP 2 [{hs:=[(4,yC DP),(5,yC rB)],T:=5},yH [(1,yV (ao true))]] [.aa [43,8,41,34,19,7,6,5,4,3,2,0,1] [1015,4,3,2]] [yI DP,yI rB,yB (ao (fH g (cO e) e.ak != (0:Int))=ao true) (by simp [c3])]<|zT 43<|zP 1 [{}] [.aa [5,43,8,41,34,19,7,6,4,3,2,0,1] [4,1015,3,2]] [yL 5 5]<|dk (bL)
 have JO:=fun i hi=>rC c3 (i:=i) hi
 rw [if_neg (fun q=>q c3)] at HM
 rw [c3] at rB
 have tN:=w_ g e hG k1 k5 (qQ cb) (by have:=hB.dep.CW;omega)
 rw [←HM] at tN
 by_cases c4:eW g e=0
 case neg =>
  have cg:ga g e=g:=if_pos c4
  rw [cg]
  refine zO Tryz.func31 103<|zP 2 [{},yH [(1,yC lH)]] [.aa [7,6,5,4,3,2,0,1] [1015,4,3,2]] [yI lH,yI (aQ (dM e))]<|zS<|zQ 1 [yH [(1,yV (ao false))]] [yR (ao false)]<|zF 19<|a6<|zS<|zP 1 [yH ([(4,yV (ai (g.aC+1))),(11,{av:=some (ao (e.prev != g.head)),g:=false}),(12,{b:=false})]++yg [7,8,9,10])] [.aa [34,19,7,6,5,4,3,2,0,1] [1015,4,3,2]] ([yN (g.aC+1)]++yM 5 (yI wM)++ [yI (cK e.prev g.head),yI wM])<|bj 34 (e.prev != g.head) (by assumption)<|a6<|zS<|zP 2 [{hs:=[(4,yC DP),(5,yC rB)],T:=5},yH [(1,yV (ao false))]] [.aa [43,8,41,34,19,7,6,5,4,3,2,0,1] [1015,4,3,2]] [yI DP,yI rB,yR (ao false)]<|zF 43<|a6<|zP 1 [yH [(2,yD tN)]] [.aa [7,9,43,8,41,34,19,6,5,4,3,2,0,1] [9,1015,4,3,2]] [yI tN,yL 5 5]<|zS<|zQ 1 [yH [(1,yV (ao true))]] [yB (ao (eW g e != (0:Int))=ao true) (by simp [c4])]<|zT 53<|zP 1 [{}] [.aa [5,53,7,9,43,8,41,34,19,6,4,3,2,0,1] [4,9,1015,3,2]] [yL 5 5]<|dk (bL)
 have cg:ga g e=⟨e.aC,cO e,(cw g e).bm,iz (cw g e).aq e.ak,(cw g e).aR⟩:=if_neg (fun q=>q c4)
 rw [cg,c4]
 rw [c4] at tN
 have gC:=CK g e
 generalize cw g e=G at *
 have nF:∀i,(ae aN (iz G.aq (e.ak.take i))).length=G.aq.length*4:=fun i=>by rw [aA (e:=4) (fun _=>rfl),kN]
 clear HM cg
 refine zO Tryz.func31 103<|zP 2 [{},yH [(1,yC lH)]] [.aa [7,6,5,4,3,2,0,1] [1015,4,3,2]] [yI lH,yI (aQ (dM e))]<|zS<|zq<|zF 19<|a6<|zS<|zP 1 [yH ([(4,yV (ai (g.aC+1))),(11,{av:=some (ao (e.prev != g.head)),g:=false}),(12,{b:=false})]++yg [7,8,9,10])] [.aa [34,19,7,6,5,4,3,2,0,1] [1015,4,3,2]] ([yN (g.aC+1)]++yM 5 (yI wM)++ [yI (cK e.prev g.head),yI wM])<|bj 34 (e.prev != g.head) (by assumption)<|a6<|zS<|zP 2 [{hs:=[(4,yC DP),(5,yC rB)],T:=5},{}] [.aa [43,8,41,34,19,7,6,5,4,3,2,0,1] [1015,4,3,2]] [yI DP,yI rB]<|zF 43<|a6<|zP 1 [yH [(2,yD tN)]] [.aa [7,9,43,8,41,34,19,6,5,4,3,2,0,1] [9,1015,4,3,2]] [yI tN,yL 5 5]<|zS<|zq<|zF 53<|a6<|zP 2 [{hs:=[(2,yV (ai (g.aC+1))),(4,yC DP)],T:=6},yH [(2,{b:=false})]] [.aa [10,53,7,9,43,8,41,34,19,6,5,4,3,2,0,1] [65,9,1015,4,3,2]] [yN (g.aC+1),yI DP,yL 1 5,yL 2 5,yB (cC (ae aN G.aq)) (dJ (fun x=>dQ rfl) _),yB ((0+(ae aN G.aq).length)*40≤562949953421312) (by simp only [aA (f:=aN) (e:=4) (fun _=>rfl)];omega)]<|zS<|zq<|zB 0 (zL (fun (i:Nat)=>(⟨[(53,ao ((0:Int) != (0:Int))),(7,ai 0),(9,AV.addr 9 0),(43,ao ((0:Int) != (0:Int))),(8,ai 0),(41,ai 0),(34,ao (e.prev != g.head)),(19,ao ((0:Int) != (0:Int))),(6,AV.ref 1015),(5,ai 0),(4,AV.addr 4 0),(3,AV.addr 3 0),(2,AV.addr 2 0),(0,AV.agg (de g)),(1,AV.agg (aG e)),(11,ai i),(10,AV.ref 10)],[(9,⟨1,false,true,[ai (g.aC+1),aw (cO e),ai G.bm,AV.sl 4 (ae aN G.aq),AV.sl 7 (ae bk G.aR)]⟩),(1015,⟨1,true,false,ah (dM e)⟩),(4,⟨1,false,true,[ai 0,dY,ai 0,AV.nil,AV.nil]⟩),(3,⟨1,false,true,(aG e)⟩),(2,⟨1,false,true,List.map (aH 65) (List.map (aH 9) (List.map (aH 1015) (List.map (aH 4) (List.map (aH 3) (List.map (aH 2) (de g))))))⟩),(10,⟨4,true,false,ae aN (iz G.aq (e.ak.take i))⟩)]⟩:AS)) (fun i=>(i≤e.ak.length)) (fun i=>(e.ak.length-i)) (0) ?_ (zW [.wU 65 10,.aa [53,7,9,43,8,41,34,19,6,5,4,3,2,0,1,11,10] [9,1015,4,3,2,10]]) ?_)
 ·omega
 intro i hi
 refine zS<|bf.pe 1 [{hs:=[(3,{k:=e.ak.length})]}] [.aa [70,53,7,9,43,8,41,34,19,6,5,4,3,2,0,1,11,10] [9,1015,4,3,2,10]] bC (s':=AS.mk [(70,ao (decide ((↑i:Int)<(↑e.ak.length:Int)))),(53,ao ((0:Int) != (0:Int))),(7,ai 0),(9,AV.addr 9 0),(43,ao ((0:Int) != (0:Int))),(8,ai 0),(41,ai 0),(34,ao (e.prev != g.head)),(19,ao ((0:Int) != (0:Int))),(6,AV.ref 1015),(5,ai 0),(4,AV.addr 4 0),(3,AV.addr 3 0),(2,AV.addr 2 0),(0,AV.agg (de g)),(1,AV.agg (aG e)),(11,ai ↑i),(10,AV.ref 10)] [(9,Row.mk 1 false true [ai (g.aC+1),aw (cO e),ai G.bm,AV.sl 4 (ae aN G.aq),AV.sl 7 (ae bk G.aR)]),(1015,Row.mk 1 true false (ah (dM e))),(4,Row.mk 1 false true [ai 0,dY,ai 0,AV.nil,AV.nil]),(3,Row.mk 1 false true (aG e)),(2,Row.mk 1 false true (List.map (aH 65) (List.map (aH 9) (List.map (aH 1015) (List.map (aH 4) (List.map (aH 3) (List.map (aH 2) (de g)))))))),(10,Row.mk 4 true false (ae aN (iz G.aq (List.take i e.ak))))]) (C:=[(ae aW e.ak).length=e.ak.length*4]) bC ⟨xW,trivial⟩ (zD 70 ((↑i:Int)<(↑e.ak.length:Int)) (fun q=>?_) (fun q=>?_))
 ·have dc:i<e.ak.length:=ag
  have ic:=jF dc
  obtain ⟨l1,l2⟩:=JO i dc
  have dC:=xu G.aq dc
  have hl:=nF i
  have AJ:=kN (e.ak.take i) G.aq
  generalize iz G.aq (e.ak.take i)=M at *
  have xX:=mM M (e.ak.getD i default).name ag
  obtain ⟨z,hz,Oz⟩:∃z:Nat,(e.ak.getD i default).leaf=z∧z<16:=⟨(e.ak.getD i default).leaf.toNat,ag,ag⟩
  have Td:IntKind.u64.wrap (e.ak.getD i default).leaf=(z:Int):=by rw [hz,IntKind.wrap_u64];omega
  have T0:AV.val (.int .u64 (IntKind.u64.wrap (wv 1*2^min ((z:Nat):Int).toNat IntKind.u64.bits)))=aw (gJ (e.ak.getD i default).leaf):=by rw [jP 1 (z:Int) ag ag];unfold gJ;rw [hz]
  rcases eN M (e.ak.getD i default).name with hm|⟨k,hm,gV,-⟩
  ·have hs:nJ M (e.ak.getD i default)=M:=if_pos ag
   rw [hm] at xX
   refine a6<|zS<|zB 1<|zP 2 [yH [(4,{k:=i}),(6,yV (di (e.ak.getD i default).name)),(7,yC xX)],{}] [.aa [82,12,70,53,7,9,43,8,41,34,19,6,5,4,3,2,0,1,11,10] [9,1015,4,3,2,10]] [yR (↑i:Int),yO (i*4<(ae aW e.ak).length),yA aW e.ak i 0,yI xX]<|dm 82 ((-1:Int)≥0)<|zK<|aK<|al<|zX (yH [(1,yV (ai ((↑i:Int)+1)))]) [yN ((↑i:Int)+1)] (aF (i+1) (by assumption) ag (eX [.aa [53,7,9,43,8,41,34,19,6,5,4,3,2,0,1,11,10] [9,1015,4,3,2,10]] [] [10] [yB (ae aN M=ae aN (iz G.aq (List.take (i+1) e.ak))) (by rw [dC,hs])]))
  ·have Wn:=pS hm
   have hs:nJ M (e.ak.getD i default)=M.set k {M.getD k default with used:=(M.getD k default).used|||gJ (e.ak.getD i default).leaf}:=by unfold nJ;rw [if_neg ag,Wn,hm];rfl
   rw [hm] at xX
   have Tx:=oJ gV
   have s1:=xR gV ((M.getD k default).used|||gJ (e.ak.getD i default).leaf)
   rw [←hs,←dC] at s1
   refine a6<|zS<|zB 1<|zP 2 [yH [(4,{k:=i}),(6,yV (di (e.ak.getD i default).name)),(7,yC xX)],{}] [.aa [82,12,70,53,7,9,43,8,41,34,19,6,5,4,3,2,0,1,11,10] [9,1015,4,3,2,10]] [yR (↑i:Int),yO (i*4<(ae aW e.ak).length),yA aW e.ak i 0,yI xX]<|gX 82 ((↑k:Int)≥0)<|zX ({hs:=[(2,{k:=k}),(4,yV (aw ((M.getD k default).used))),(8,{k:=i}),(11,yV (ai ((e.ak.getD i default).leaf))),(12,yV (AV.val (Value.int .u64 (↑z:Int)))),(13,yV (aw (gJ (e.ak.getD i default).leaf))),(14,yV (aw ((M.getD k default).used|||gJ (e.ak.getD i default).leaf))),(15,{k:=k}),(17,yV (AV.arr (ae aN (iz G.aq (List.take (i+1) e.ak)))))],T:=14}) [yR (↑k:Int),yO (k*4<(ae aN M).length),yA aN M k 3,yR (↑i:Int),yO (i*4<(ae aW e.ak).length),yA aW e.ak i 1,yI (yd Td),yI T0,yO ((0:Int)≤(↑z:Int)),yI (qa ((M.getD k default).used) (gJ (e.ak.getD i default).leaf)),yR (↑k:Int),yO (k*4<(ae aN M).length),yI s1,yO (k*4+3+1≤(ae aN M).length)]<|aK<|al<|zX (yH [(1,yV (ai ((↑i:Int)+1)))]) [yN ((↑i:Int)+1)] (aF (i+1) (by assumption) ag (zW [.aa [53,7,9,43,8,41,34,19,6,5,4,3,2,0,1,11,10] [9,1015,4,3,2,10]]))
 ·have ei:i=e.ak.length:=ag
  subst ei
  rw [List.take_length]
  refine bf.tD [.gM 10] bC<|zE 0<|a7<|aP<|bp<|al<|zP 2 [{},{}] [.aa [5,70,53,7,9,43,8,41,34,19,6,4,3,2,0,1,11,10] [4,9,1015,3,2]] [yL 4 5,yL 5 5]<|zR (zV [yJ (g.aC+1) e.aC (by rw [Qo]),yR (Value.int .u64 (wv (cO e))),yR (Value.int .i64 G.bm),yR (ae aN (iz G.aq e.ak)),yR (ae bk G.aR),yR (Value.int .i64 0)])
def EZ (g:fG):Prop:=∀d∈g.aR,d.af.length≤1000000
theorem Px {g:fG} {e:dj} (hG:ni g) (ht:e.kind=3->1≤e.bm∧e.bm≤8) (h:gT g e=0):(cw g e).aq.length≤8∧0≤(cw g e).bm∧(cw g e).bm≤8∧(cw g e).aR.length≤8:=by
 obtain ⟨g1,g2,g3,g4,g5,g6⟩:=hG
 unfold cw
 rw [if_neg (fun q=>q h)]
 unfold gT at h
 by_cases c1:e.kind=1
 ·rw [if_pos c1] at h ⊢
  have hm:g.aq.length<8:=by
   apply Classical.byContradiction;intro q
   split at h
   ·omega
   rw [if_pos ag] at h;omega
  refine ⟨by simp;omega,?_,?_,g6⟩
  ·show (0:Int)≤(if 2*g.bm≤g.aq.length+1 then g.bm+1 else g.bm)
   split<;>omega
  ·show (if 2*g.bm≤g.aq.length+1 then g.bm+1 else g.bm)≤(8:Int)
   split<;>omega
 rw [if_neg c1] at h ⊢
 by_cases c2:e.kind=2
 ·rw [if_pos c2]
  refine ⟨?_,g4,g5,g6⟩
  show (ke _ _).length≤8
  unfold ke
  simp only [List.length_append,List.length_take,List.length_drop];omega
 rw [if_neg c2] at h ⊢
 by_cases c3:e.kind=3
 ·rw [if_pos c3]
  have:=ht c3
  exact ⟨g3,by show 0≤e.bm;omega,this.2,g6⟩
 rw [if_neg c3] at h ⊢
 by_cases c4:e.kind=4
 ·rw [if_pos c4] at h ⊢
  refine ⟨g3,g4,g5,?_⟩
  show (g.aR++ [e.dep]).length≤8
  split at h
  ·omega
  ·simp;omega
 rw [if_neg c4]
 exact ⟨g3,g4,g5,by show (rO _ _ _).length≤8;unfold rO;simpa using g6⟩
theorem gy {g:fG} {e:dj} (h:eW g e=0):eO e=0∧e.aC=g.aC+1∧e.prev=g.head∧fH g (cO e) e.ak=0∧gT g e=0:=by
 unfold eW at h
 by_cases c1:eO e=0
 case neg=>rw [if_pos c1] at h;exact absurd h c1
 rw [if_neg (fun q=>q c1)] at h
 by_cases c2:e.aC≠g.aC+1∨e.prev≠g.head
 ·rw [if_pos c2] at h;omega
 rw [if_neg c2] at h
 by_cases c3:fH g (cO e) e.ak=0
 case neg=>rw [if_pos c3] at h;exact absurd h c3
 rw [if_neg (fun q=>q c3)] at h
 exact ⟨c1,ag,Classical.byContradiction fun q=>c2 (.inr q),c3,h⟩
theorem rn {g:fG} {e:dj} (h:eW g e=0):ga g e=⟨e.aC,cO e,(cw g e).bm,iz (cw g e).aq e.ak,(cw g e).aR⟩:=if_neg (fun q=>q h)
theorem ur {g:fG} {e:dj} (h:eW g e≠0):ga g e=g:=if_pos h
theorem K5 {g:fG} {e:dj} (hG:ni g) (h:eW g e=0):ni (ga g e):=by
 obtain ⟨h1,h2,h3,h4,h5⟩:=gy h
 obtain ⟨-,-,SC,Us,-,-⟩:=mu h1
 obtain ⟨b1,b2,b3,b4⟩:=Px hG (qQ h1) h5
 rw [rn h]
 exact ⟨by show 0≤e.aC;omega,Us,by show (iz _ _).length≤8;rw [kN];exact b1,b2,b3,b4⟩
theorem EZ.Xt {g:fG} {e:dj} (hG:EZ g) (hB:e.dep.af.length≤1000000):EZ (ga g e):=by
 unfold ga
 split
 ·exact hG
 show EZ ⟨_,_,_,_,(cw g e).aR⟩
 intro d hd
 have hd:d∈(cw g e).aR:=hd
 unfold cw at hd
 split at hd
 ·exact hG d hd
 split at hd
 ·exact hG d hd
 split at hd
 ·exact hG d hd
 split at hd
 ·exact hG d hd
 split at hd
 ·rcases List.mem_append.1 hd with hd|hd
  ·exact hG d hd
  ·obtain rfl:=List.mem_singleton.1 hd;exact hB
 ·have hd:d∈rO g.aR (ug g.aR e.cm) e.target:=hd
  unfold rO at hd
  rcases List.mem_or_eq_of_mem_set hd with hd|rfl
  ·exact hG d hd
  ·show (g.aR.getD _ default).af.length≤_
   rw [List.getD_eq_getElem?_getD]
   by_cases c:ug g.aR e.cm<g.aR.length
   ·rw [List.getElem?_eq_getElem c];exact hG _ (List.getElem_mem c)
   ·rw [List.getElem?_eq_none ag];exact Nat.zero_le _
theorem K4 {g:fG} {e:dj} (hb:eO e=0) (he:e.aC=g.aC+1) (hp:e.prev=g.head):eW g e=if fH g (cO e) e.ak≠0 then fH g (cO e) e.ak else gT g e:=by
 unfold eW
 rw [if_neg (fun q=>q hb),if_neg (by rintro (q|q);exact q he;exact q hp)]
theorem J_ {e:dj} (k1:1≤e.kind) (k5:e.kind≤5) (hs:fW e) (e1:1≤e.aC) (e2:e.aC≤2147483647):eO e=ft e:=by
 unfold eO
 rw [if_neg ag,if_neg (fun q=>q hs),if_neg ag]
theorem KV (A:Option Addr) (n c:Nat) (w:World) (hc:n≤c) (hm:c≤maxLen):Calls Tryz.prog 151 #[.slice A n c] w fun e w'=>e= .returned (.slice A n n)∧w'=w:=by
 go_enter Tryz.func151,Tryz.ntmps151
 go_wp2
 go_ret
 exact ⟨rfl,rfl⟩
theorem KU (row:List AV):bA Tryz.prog 151 [.sl 4 row] (.sm 4 row):=by
 intro w S vs _ hS hl hr
 obtain ⟨a,rfl⟩:=Gh hl rfl
 cases hr 0 a _ rfl rfl with
 | sl A n c e us _ hl hn hc hm ha h =>
  refine (KV A n c w hc hm).mono fun e w' ⟨he,hw⟩=>?_
  subst hw
  refine ⟨_,[],he,Below.refl _ _,List.nodup_nil,by simp,.inl (.inl (.rep (.sm A n 4 us row hl hn ag (fun h0=>?_) fun j u x hu hx=>(h j u x hu hx).mono fun b hb=>⟨.inl hb,rfl⟩)))⟩
  obtain ⟨ad,e1,e2,e3⟩:=ha h0
  exact ⟨ad,e1,.inl e2,e3⟩
theorem HK (A:Option Addr) (n c:Nat) (w:World) (hc:n≤c) (hm:c≤maxLen):Calls Tryz.prog 153 #[.slice A n c] w fun e w'=>e= .returned (.slice A n n)∧w'=w:=by
 go_enter Tryz.func153,Tryz.ntmps153
 go_wp2
 go_ret
 exact ⟨rfl,rfl⟩
theorem HJ (row:List AV):bA Tryz.prog 153 [.sl 7 row] (.sm 7 row):=by
 intro w S vs _ hS hl hr
 obtain ⟨a,rfl⟩:=Gh hl rfl
 cases hr 0 a _ rfl rfl with
 | sl A n c e us _ hl hn hc hm ha h =>
  refine (HK A n c w hc hm).mono fun e w' ⟨he,hw⟩=>?_
  subst hw
  refine ⟨_,[],he,Below.refl _ _,List.nodup_nil,by simp,.inl (.inl (.rep (.sm A n 7 us row hl hn ag (fun h0=>?_) fun j u x hu hx=>(h j u x hu hx).mono fun b hb=>⟨.inl hb,rfl⟩)))⟩
  obtain ⟨ad,e1,e2,e3⟩:=ha h0
  exact ⟨ad,e1,.inl e2,e3⟩
end Go.Proofs.YtjgbhhnghedgdaaGreatDoor
