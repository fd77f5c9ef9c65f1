import Derived.Test.YtjgbhhnghedgdaaGreatDoorZvGrC1
set_option linter.all false
namespace Go.Proofs.YtjgbhhnghedgdaaGreatDoor
open Go.RowKit
set_option maxRecDepth 100000
set_option maxHeartbeats 4000000
theorem xI {l:List Mem} {k:Nat} (hk:k<l.length) (u:UInt64):(af aT l).set (k*4+3) (aw u)=af aT (l.set k {l.getD k default with used:=u}):=by
 induction l generalizing k with
 | nil=>cases hk
 | cons m l ih =>
  cases k with
  | zero=>rfl
  | succ k =>
   have:=ih (k:=k) (by simpa using hk)
   rw [show (k+1)*4+3=k*4+3+4 by omega]
   show aT m++(af aT l).set (k*4+3) (aw u)=aT m++af aT (l.set k {l.getD k default with used:=u})
   rw [this]
theorem HE (l:List Mem) (v:ic):(qg l v).length=l.length:=by unfold qg;split<;>simp
theorem nN (vs:List ic):∀l:List Mem,(kt l vs).length=l.length:=by
 induction vs with
 | nil=>intro l;rfl
 | cons v vs ih=>intro l;show (kt (qg l v) vs).length=_;rw [ih,HE]
theorem xm (l:List Mem) {V:List ic} {i:Nat} (h:i<V.length):kt l (V.take (i+1))=qg (kt l (V.take i)) (V.getD i default):=by
 unfold kt
 rw [List.take_add_one,List.foldl_append,List.getD_eq_getElem?_getD,List.getElem?_eq_getElem h];rfl
theorem xi {g:ig} {w:UInt64} {V:List ic} (h:fT g w V=0) {i:Nat} (hi:i<V.length):0≤(V.getD i default).leaf∧(V.getD i default).leaf<16:=by
 have h0:ff (ki g w V) V.length=0:=by
  apply Classical.byContradiction;intro q
  unfold fT at h;rw [if_pos q] at h;exact q h
 have h1:ki g w V i=0:=zw h0 i hi
 unfold ki at h1
 split at h1
 ·omega
 split at h1
 ·omega
 split at h1
 ·rename_i q;exact absurd h1 q
 ·rename_i q;exact uE (Classical.not_not.1 q)
theorem Cj (g:ig) (e:fC):(c_ g e).aq.length≤g.aq.length+1:=by
 unfold c_ q8
 split
 ·omega
 split
 ·simp
 split
 ·simp only [List.length_append,List.length_take,List.length_drop];omega
 split
 ·simp
 split<;>simp
theorem qO {e:fC} (h:fa e=0):1≤e.kind∧e.kind≤5∧1≤e.aC∧e.aC≤2147483647∧fI e=0∧fV e:=by
 unfold fa at h
 by_cases k1:e.kind<1∨5<e.kind
 ·rw [if_pos k1] at h;omega
 rw [if_neg k1] at h
 by_cases c1:¬fV e
 ·rw [if_pos c1] at h;omega
 rw [if_neg c1] at h
 by_cases q1:e.aC<1∨2147483647<e.aC
 ·rw [if_pos q1] at h;omega
 rw [if_neg q1] at h
 exact ⟨ag,ag,ag,ag,h,Classical.not_not.1 c1⟩
theorem zo {e:fC} (h:fa e=0) (k3:e.kind=3):1≤e.bA∧e.bA≤8:=by
 have hf:=(qO h).2.2.2.2.1
 unfold fI at hf
 rw [if_neg ag,if_neg ag,if_pos k3] at hf
 apply Classical.byContradiction;intro q
 rw [if_pos ag] at hf;omega
theorem yU (g:ig) (e:fC) (hG:ry g) (hB:nB e) (hv:e.ak.length≤1000000) (lL:bG Tryz.prog 40 [.agg (bf e)] (.cw [.own 1 (aj (iJ e)),ai (fa e)])):bG Tryz.prog 31 [.agg (dA g),.agg (bf e)] (.cw [.agg (dA (jC g e)),ai (gQ g e)]):=by
 have l0:(af aL e.ak).length=e.ak.length*4:=aE (e:=4) (fun _=>rfl) ..
 by_cases cb:fa e=0
 case neg =>
  have ce:gQ g e=fa e:=if_pos cb
  have cg:jC g e=g:=if_pos (by rw [ce];exact cb)
  rw [ce,cg]
  refine zO Tryz.func31 103<|zP 2 [{},yH [(1,yC lL)]] [.aa [7,6,5,4,3,2,0,1] [1015,4,3,2]] [yI lL,yI (aV (iJ e))]<|zS<|zQ 1 [yH [(1,yV (ao true))]] [yB (ao (fa e != (0:Int))=ao true) (by simp [cb])]<|zT 19<|zP 1 [{}] [.aa [5,19,7,6,4,3,2,0,1] [4,1015,3,2]] [yL 5 5]<|dC (bP)
 have qc:=vR e cb
 obtain ⟨k1,k5,RZ,T9,wN,UF⟩:=qO cb
 have hw:IntKind.i64.wrap (g.aC+1)=g.aC+1:=by have:=hG.W3;have:=hG.RZ;rw [IntKind.wrap_i64];omega
 rw [cb] at lL
 by_cases c1:e.aC≠g.aC+1
 ·have ce:gQ g e=42:=by unfold gQ;rw [if_neg (fun q=>q cb),if_pos (.inl c1)]
  have cg:jC g e=g:=if_pos ag
  rw [ce,cg]
  have wI:(e.aC != g.aC+1)=true:=bne_iff_ne.2 c1
  refine zO Tryz.func31 103<|zP 2 [{},yH [(1,yC lL)]] [.aa [7,6,5,4,3,2,0,1] [1015,4,3,2]] [yI lL,yI (aV (iJ e))]<|zS<|zq<|zF 19<|a_<|zS<|zP 1 [yH [(4,yV (ai (g.aC+1)))]] [.aa [34,19,7,6,5,4,3,2,0,1] [1015,4,3,2]] ([yI (yc hw)]++yM 6 (yI wI))<|zT 34<|zP 1 [{}] [.aa [5,34,19,7,6,4,3,2,0,1] [4,1015,3,2]] [yL 5 5]<|dC (bP)
 have Pv:e.aC=g.aC+1:=ag
 have wI:(e.aC != g.aC+1)=false:=by rw [Pv];simp
 by_cases c2:e.prev=g.head
 case neg =>
  have ce:gQ g e=42:=by unfold gQ;rw [if_neg (fun q=>q cb),if_pos (.inr c2)]
  have cg:jC g e=g:=if_pos ag
  rw [ce,cg]
  have Uc:(e.prev != g.head)=true:=bne_iff_ne.2 c2
  refine zO Tryz.func31 103<|zP 2 [{},yH [(1,yC lL)]] [.aa [7,6,5,4,3,2,0,1] [1015,4,3,2]] [yI lL,yI (aV (iJ e))]<|zS<|zq<|zF 19<|a_<|zS<|zP 1 [yH ([(4,yV (ai (g.aC+1))),(11,{av:=some (ao (e.prev != g.head)),g:=false}),(12,{b:=false})]++yg [7,8,9,10])] [.aa [34,19,7,6,5,4,3,2,0,1] [1015,4,3,2]] ([yN (g.aC+1)]++yM 5 (yI wI)++ [yI (cG e.prev g.head),yI wI])<|dB 34 (e.prev != g.head) (by assumption)<|zP 1 [{}] [.aa [5,34,19,7,6,4,3,2,0,1] [4,1015,3,2]] [yL 5 5]<|dC (bP)
 have Uc:(e.prev != g.head)=false:=by rw [c2];simp
 have G6:gQ g e=if fT g (cJ e) e.ak≠0 then fT g (cJ e) e.ak else gW g e:=by unfold gQ;rw [if_neg (fun q=>q cb),if_neg (by rintro (q|q);exact q Pv;exact q c2)]
 have Dg:=pr (iJ e) ag
 rw [show hash 16 (iJ e)=cJ e from rfl] at Dg
 have m8:=hG.m8
 have t_:=yy g (cJ e) e.ak ag hv
 by_cases c3:fT g (cJ e) e.ak=0
 case neg =>
  rw [if_pos c3] at G6
  have cg:jC g e=g:=if_pos (by rw [G6];exact c3)
  rw [G6,cg]
  refine zO Tryz.func31 103<|zP 2 [{},yH [(1,yC lL)]] [.aa [7,6,5,4,3,2,0,1] [1015,4,3,2]] [yI lL,yI (aV (iJ e))]<|zS<|zQ 1 [yH [(1,yV (ao false))]] [yR (ao false)]<|zF 19<|a_<|zS<|zP 1 [yH ([(4,yV (ai (g.aC+1))),(11,{av:=some (ao (e.prev != g.head)),g:=false}),(12,{b:=false})]++yg [7,8,9,10])] [.aa [34,19,7,6,5,4,3,2,0,1] [1015,4,3,2]] ([yN (g.aC+1)]++yM 5 (yI wI)++ [yI (cG e.prev g.head),yI wI])<|bk 34 (e.prev != g.head) (by assumption)<|a_<|zS<|zP 2 [{hs:=[(4,yC Dg),(5,yC t_)],T:=5},yH [(1,yV (ao true))]] [.aa [43,8,41,34,19,7,6,5,4,3,2,0,1] [1015,4,3,2]] [yI Dg,yI t_,yB (ao (fT g (cJ e) e.ak != (0:Int))=ao true) (by simp [c3])]<|zT 43<|zP 1 [{}] [.aa [5,43,8,41,34,19,7,6,4,3,2,0,1] [4,1015,3,2]] [yL 5 5]<|dC (bP)
 have LA:=fun i hi=>xi c3 (i:=i) hi
 rw [if_neg (fun q=>q c3)] at G6
 rw [c3] at t_
 have tI:=wX g e hG k1 k5 (zo cb) (by have:=hB.dep.Cu;omega)
 rw [←G6] at tI
 by_cases c4:gQ g e=0
 case neg =>
  have cg:jC g e=g:=if_pos c4
  rw [cg]
  refine zO Tryz.func31 103<|zP 2 [{},yH [(1,yC lL)]] [.aa [7,6,5,4,3,2,0,1] [1015,4,3,2]] [yI lL,yI (aV (iJ e))]<|zS<|zQ 1 [yH [(1,yV (ao false))]] [yR (ao false)]<|zF 19<|a_<|zS<|zP 1 [yH ([(4,yV (ai (g.aC+1))),(11,{av:=some (ao (e.prev != g.head)),g:=false}),(12,{b:=false})]++yg [7,8,9,10])] [.aa [34,19,7,6,5,4,3,2,0,1] [1015,4,3,2]] ([yN (g.aC+1)]++yM 5 (yI wI)++ [yI (cG e.prev g.head),yI wI])<|bk 34 (e.prev != g.head) (by assumption)<|a_<|zS<|zP 2 [{hs:=[(4,yC Dg),(5,yC t_)],T:=5},yH [(1,yV (ao false))]] [.aa [43,8,41,34,19,7,6,5,4,3,2,0,1] [1015,4,3,2]] [yI Dg,yI t_,yR (ao false)]<|zF 43<|a_<|zP 1 [yH [(2,yD tI)]] [.aa [7,9,43,8,41,34,19,6,5,4,3,2,0,1] [9,1015,4,3,2]] [yI tI,yL 5 5]<|zS<|zQ 1 [yH [(1,yV (ao true))]] [yB (ao (gQ g e != (0:Int))=ao true) (by simp [c4])]<|zT 53<|zP 1 [{}] [.aa [5,53,7,9,43,8,41,34,19,6,4,3,2,0,1] [4,9,1015,3,2]] [yL 5 5]<|dC (bP)
 have cg:jC g e=⟨e.aC,cJ e,(c_ g e).bA,kt (c_ g e).aq e.ak,(c_ g e).aU⟩:=if_neg (fun q=>q c4)
 rw [cg,c4]
 rw [c4] at tI
 have fi:=Cj g e
 generalize c_ g e=G at *
 have nG:∀i,(af aT (kt G.aq (e.ak.take i))).length=G.aq.length*4:=fun i=>by rw [aE (e:=4) (fun _=>rfl),nN]
 clear G6 cg
 refine zO Tryz.func31 103<|zP 2 [{},yH [(1,yC lL)]] [.aa [7,6,5,4,3,2,0,1] [1015,4,3,2]] [yI lL,yI (aV (iJ e))]<|zS<|zq<|zF 19<|a_<|zS<|zP 1 [yH ([(4,yV (ai (g.aC+1))),(11,{av:=some (ao (e.prev != g.head)),g:=false}),(12,{b:=false})]++yg [7,8,9,10])] [.aa [34,19,7,6,5,4,3,2,0,1] [1015,4,3,2]] ([yN (g.aC+1)]++yM 5 (yI wI)++ [yI (cG e.prev g.head),yI wI])<|bk 34 (e.prev != g.head) (by assumption)<|a_<|zS<|zP 2 [{hs:=[(4,yC Dg),(5,yC t_)],T:=5},{}] [.aa [43,8,41,34,19,7,6,5,4,3,2,0,1] [1015,4,3,2]] [yI Dg,yI t_]<|zF 43<|a_<|zP 1 [yH [(2,yD tI)]] [.aa [7,9,43,8,41,34,19,6,5,4,3,2,0,1] [9,1015,4,3,2]] [yI tI,yL 5 5]<|zS<|zq<|zF 53<|a_<|zP 2 [{hs:=[(2,yV (ai (g.aC+1))),(4,yC Dg)],T:=6},yH [(2,{b:=false})]] [.aa [10,53,7,9,43,8,41,34,19,6,5,4,3,2,0,1] [65,9,1015,4,3,2]] [yN (g.aC+1),yI Dg,yL 1 5,yL 2 5,yB (cp (af aT G.aq)) (dm (fun x=>dr rfl) _),yB ((0+(af aT G.aq).length)*40≤562949953421312) (by simp only [aE (f:=aT) (e:=4) (fun _=>rfl)];omega)]<|zS<|zq<|zB 0 (zL (fun (i:Nat)=>(⟨[(53,ao ((0:Int) != (0:Int))),(7,ai 0),(9,AV.addr 9 0),(43,ao ((0:Int) != (0:Int))),(8,ai 0),(41,ai 0),(34,ao (e.prev != g.head)),(19,ao ((0:Int) != (0:Int))),(6,AV.ref 1015),(5,ai 0),(4,AV.addr 4 0),(3,AV.addr 3 0),(2,AV.addr 2 0),(0,AV.agg (dA g)),(1,AV.agg (bf e)),(11,ai i),(10,AV.ref 10)],[(9,⟨1,false,true,[ai (g.aC+1),aw (cJ e),ai G.bA,AV.sl 4 (af aT G.aq),AV.sl 7 (af bj G.aU)]⟩),(1015,⟨1,true,false,aj (iJ e)⟩),(4,⟨1,false,true,[ai 0,ez,ai 0,AV.nil,AV.nil]⟩),(3,⟨1,false,true,(bf e)⟩),(2,⟨1,false,true,List.map (aF 65) (List.map (aF 9) (List.map (aF 1015) (List.map (aF 4) (List.map (aF 3) (List.map (aF 2) (dA g))))))⟩),(10,⟨4,true,false,af aT (kt G.aq (e.ak.take i))⟩)]⟩:AS)) (fun i=>(i≤e.ak.length)) (fun i=>(e.ak.length-i)) (0) ?_ (zW [.uX 65 10,.aa [53,7,9,43,8,41,34,19,6,5,4,3,2,0,1,11,10] [9,1015,4,3,2,10]]) ?_)
 ·omega
 intro i hi
 refine zS<|bg.qm 1 [{hs:=[(3,{k:=e.ak.length})]}] [.aa [70,53,7,9,43,8,41,34,19,6,5,4,3,2,0,1,11,10] [9,1015,4,3,2,10]] bu (s':=AS.mk [(70,ao (decide ((↑i:Int)<(↑e.ak.length:Int)))),(53,ao ((0:Int) != (0:Int))),(7,ai 0),(9,AV.addr 9 0),(43,ao ((0:Int) != (0:Int))),(8,ai 0),(41,ai 0),(34,ao (e.prev != g.head)),(19,ao ((0:Int) != (0:Int))),(6,AV.ref 1015),(5,ai 0),(4,AV.addr 4 0),(3,AV.addr 3 0),(2,AV.addr 2 0),(0,AV.agg (dA g)),(1,AV.agg (bf e)),(11,ai ↑i),(10,AV.ref 10)] [(9,Row.mk 1 false true [ai (g.aC+1),aw (cJ e),ai G.bA,AV.sl 4 (af aT G.aq),AV.sl 7 (af bj G.aU)]),(1015,Row.mk 1 true false (aj (iJ e))),(4,Row.mk 1 false true [ai 0,ez,ai 0,AV.nil,AV.nil]),(3,Row.mk 1 false true (bf e)),(2,Row.mk 1 false true (List.map (aF 65) (List.map (aF 9) (List.map (aF 1015) (List.map (aF 4) (List.map (aF 3) (List.map (aF 2) (dA g)))))))),(10,Row.mk 4 true false (af aT (kt G.aq (List.take i e.ak))))]) (C:=[(af aL e.ak).length=e.ak.length*4]) bu ⟨l0,trivial⟩ (zD 70 ((↑i:Int)<(↑e.ak.length:Int)) (fun q=>?_) (fun q=>?_))
 ·have dI:i<e.ak.length:=ag
  have gM:=i4 dI
  obtain ⟨l1,l2⟩:=LA i dI
  have dJ:=xm G.aq dI
  have hl:=nG i
  have At:=nN (e.ak.take i) G.aq
  generalize kt G.aq (e.ak.take i)=M at *
  have xO:=mU M (e.ak.getD i default).name ag
  obtain ⟨z,hz,NF⟩:∃z:Nat,(e.ak.getD i default).leaf=z∧z<16:=⟨(e.ak.getD i default).leaf.toNat,ag,ag⟩
  have Sz:IntKind.u64.wrap (e.ak.getD i default).leaf=(z:Int):=by rw [hz,IntKind.wrap_u64];omega
  have TG:AV.val (.int .u64 (IntKind.u64.wrap (wv 1*2^min ((z:Nat):Int).toNat IntKind.u64.bits)))=aw (gO (e.ak.getD i default).leaf):=by rw [jP 1 (z:Int) ag ag];unfold gO;rw [hz]
  rcases gU M (e.ak.getD i default).name with hm|⟨k,hm,iY,-⟩
  ·have hs:qg M (e.ak.getD i default)=M:=if_pos ag
   rw [hm] at xO
   refine a_<|zS<|zB 1<|zP 2 [yH [(4,{k:=i}),(6,yV (cV (e.ak.getD i default).name)),(7,yC xO)],{}] [.aa [82,12,70,53,7,9,43,8,41,34,19,6,5,4,3,2,0,1,11,10] [9,1015,4,3,2,10]] [yR (↑i:Int),yO (i*4<(af aL e.ak).length),yA aL e.ak i 0,yI xO]<|dF 82 ((-1:Int)≥0)<|zK<|aJ<|al<|zX (yH [(1,yV (ai ((↑i:Int)+1)))]) [yN ((↑i:Int)+1)] (aH (i+1) (by assumption) ag (eS [.aa [53,7,9,43,8,41,34,19,6,5,4,3,2,0,1,11,10] [9,1015,4,3,2,10]] [] [10] [yB (af aT M=af aT (kt G.aq (List.take (i+1) e.ak))) (by rw [dJ,hs])]))
  ·have V3:=vm hm
   have hs:qg M (e.ak.getD i default)=M.set k {M.getD k default with used:=(M.getD k default).used|||gO (e.ak.getD i default).leaf}:=by unfold qg;rw [if_neg ag,V3,hm];rfl
   rw [hm] at xO
   have S5:=oO iY
   have s1:=xI iY ((M.getD k default).used|||gO (e.ak.getD i default).leaf)
   rw [←hs,←dJ] at s1
   refine a_<|zS<|zB 1<|zP 2 [yH [(4,{k:=i}),(6,yV (cV (e.ak.getD i default).name)),(7,yC xO)],{}] [.aa [82,12,70,53,7,9,43,8,41,34,19,6,5,4,3,2,0,1,11,10] [9,1015,4,3,2,10]] [yR (↑i:Int),yO (i*4<(af aL e.ak).length),yA aL e.ak i 0,yI xO]<|iw 82 ((↑k:Int)≥0)<|zX ({hs:=[(2,{k:=k}),(4,yV (aw ((M.getD k default).used))),(8,{k:=i}),(11,yV (ai ((e.ak.getD i default).leaf))),(12,yV (AV.val (Value.int .u64 (↑z:Int)))),(13,yV (aw (gO (e.ak.getD i default).leaf))),(14,yV (aw ((M.getD k default).used|||gO (e.ak.getD i default).leaf))),(15,{k:=k}),(17,yV (AV.arr (af aT (kt G.aq (List.take (i+1) e.ak)))))],T:=14}) [yR (↑k:Int),yO (k*4<(af aT M).length),yA aT M k 3,yR (↑i:Int),yO (i*4<(af aL e.ak).length),yA aL e.ak i 1,yI (yd Sz),yI TG,yO ((0:Int)≤(↑z:Int)),yI (p8 ((M.getD k default).used) (gO (e.ak.getD i default).leaf)),yR (↑k:Int),yO (k*4<(af aT M).length),yI s1,yO (k*4+3+1≤(af aT M).length)]<|aJ<|al<|zX (yH [(1,yV (ai ((↑i:Int)+1)))]) [yN ((↑i:Int)+1)] (aH (i+1) (by assumption) ag (zW [.aa [53,7,9,43,8,41,34,19,6,5,4,3,2,0,1,11,10] [9,1015,4,3,2,10]]))
 ·have ei:i=e.ak.length:=ag
  subst ei
  rw [List.take_length]
  refine bg.rz [.gR 10] bu<|zE 0<|a6<|aM<|bm<|al<|zP 2 [{},{}] [.aa [5,70,53,7,9,43,8,41,34,19,6,4,3,2,0,1,11,10] [4,9,1015,3,2]] [yL 4 5,yL 5 5]<|zR (zV [yJ (g.aC+1) e.aC (by rw [Pv]),yR (Value.int .u64 (wv (cJ e))),yR (Value.int .i64 G.bA),yR (af aT (kt G.aq e.ak)),yR (af bj G.aU),yR (Value.int .i64 0)])
def Hc (g:ig):Prop:=∀d∈g.aU,d.ae.length≤1000000
theorem OH {g:ig} {e:fC} (hG:ry g) (ht:e.kind=3->1≤e.bA∧e.bA≤8) (h:gW g e=0):(c_ g e).aq.length≤8∧0≤(c_ g e).bA∧(c_ g e).bA≤8∧(c_ g e).aU.length≤8:=by
 obtain ⟨g1,g2,g3,g4,g5,g6⟩:=hG
 unfold c_
 rw [if_neg (fun q=>q h)]
 unfold gW at h
 by_cases c1:e.kind=1
 ·rw [if_pos c1] at h ⊢
  have hm:g.aq.length<8:=by
   apply Classical.byContradiction;intro q
   split at h
   ·omega
   rw [if_pos ag] at h;omega
  refine ⟨by simp;omega,?_,?_,g6⟩
  ·show (0:Int)≤(if 2*g.bA≤g.aq.length+1 then g.bA+1 else g.bA)
   split<;>omega
  ·show (if 2*g.bA≤g.aq.length+1 then g.bA+1 else g.bA)≤(8:Int)
   split<;>omega
 rw [if_neg c1] at h ⊢
 by_cases c2:e.kind=2
 ·rw [if_pos c2]
  refine ⟨?_,g4,g5,g6⟩
  show (q8 _ _).length≤8
  unfold q8
  simp only [List.length_append,List.length_take,List.length_drop];omega
 rw [if_neg c2] at h ⊢
 by_cases c3:e.kind=3
 ·rw [if_pos c3]
  have:=ht c3
  exact ⟨g3,by show 0≤e.bA;omega,this.2,g6⟩
 rw [if_neg c3] at h ⊢
 by_cases c4:e.kind=4
 ·rw [if_pos c4] at h ⊢
  refine ⟨g3,g4,g5,?_⟩
  show (g.aU++ [e.dep]).length≤8
  split at h
  ·omega
  ·simp;omega
 rw [if_neg c4]
 exact ⟨g3,g4,g5,by show (uV _ _ _).length≤8;unfold uV;simpa using g6⟩
theorem x8 {g:ig} {e:fC} (h:gQ g e=0):fa e=0∧e.aC=g.aC+1∧e.prev=g.head∧fT g (cJ e) e.ak=0∧gW g e=0:=by
 unfold gQ at h
 by_cases c1:fa e=0
 case neg=>rw [if_pos c1] at h;exact absurd h c1
 rw [if_neg (fun q=>q c1)] at h
 by_cases c2:e.aC≠g.aC+1∨e.prev≠g.head
 ·rw [if_pos c2] at h;omega
 rw [if_neg c2] at h
 by_cases c3:fT g (cJ e) e.ak=0
 case neg=>rw [if_pos c3] at h;exact absurd h c3
 rw [if_neg (fun q=>q c3)] at h
 exact ⟨c1,ag,Classical.byContradiction fun q=>c2 (.inr q),c3,h⟩
theorem FD {g:ig} {e:fC} (h:gQ g e=0):jC g e=⟨e.aC,cJ e,(c_ g e).bA,kt (c_ g e).aq e.ak,(c_ g e).aU⟩:=if_neg (fun q=>q h)
theorem Am {g:ig} {e:fC} (h:gQ g e≠0):jC g e=g:=if_pos h
theorem OU {g:ig} {e:fC} (hG:ry g) (h:gQ g e=0):ry (jC g e):=by
 obtain ⟨h1,h2,h3,h4,h5⟩:=x8 h
 obtain ⟨-,-,RZ,T9,-,-⟩:=qO h1
 obtain ⟨b1,b2,b3,b4⟩:=OH hG (zo h1) h5
 rw [FD h]
 exact ⟨by show 0≤e.aC;omega,T9,by show (kt _ _).length≤8;rw [nN];exact b1,b2,b3,b4⟩
theorem Hc.Xe {g:ig} {e:fC} (hG:Hc g) (hB:e.dep.ae.length≤1000000):Hc (jC g e):=by
 unfold jC
 split
 ·exact hG
 show Hc ⟨_,_,_,_,(c_ g e).aU⟩
 intro d hd
 have hd:d∈(c_ g e).aU:=hd
 unfold c_ at hd
 split at hd
 ·exact hG d hd
 split at hd
 ·exact hG d hd
 split at hd
 ·exact hG d hd
 split at hd
 ·exact hG d hd
 split at hd
 ·rcases List.mem_append.1 hd with hd|hd
  ·exact hG d hd
  ·obtain rfl:=List.mem_singleton.1 hd;exact hB
 ·have hd:d∈uV g.aU (wP g.aU e.bV) e.target:=hd
  unfold uV at hd
  rcases List.mem_or_eq_of_mem_set hd with hd|rfl
  ·exact hG d hd
  ·show (g.aU.getD _ default).ae.length≤_
   rw [List.getD_eq_getElem?_getD]
   by_cases c:wP g.aU e.bV<g.aU.length
   ·rw [List.getElem?_eq_getElem c];exact hG _ (List.getElem_mem c)
   ·rw [List.getElem?_eq_none ag];exact Nat.zero_le _
theorem Ko {g:ig} {e:fC} (hb:fa e=0) (he:e.aC=g.aC+1) (hp:e.prev=g.head):gQ g e=if fT g (cJ e) e.ak≠0 then fT g (cJ e) e.ak else gW g e:=by
 unfold gQ
 rw [if_neg (fun q=>q hb),if_neg (by rintro (q|q);exact q he;exact q hp)]
theorem Js {e:fC} (k1:1≤e.kind) (k5:e.kind≤5) (hs:fV e) (e1:1≤e.aC) (e2:e.aC≤2147483647):fa e=fI e:=by
 unfold fa
 rw [if_neg ag,if_neg (fun q=>q hs),if_neg ag]
theorem Ke (A:Option Addr) (n c:Nat) (w:World) (hc:n≤c) (hm:c≤maxLen):Calls Tryz.prog 151 #[.slice A n c] w fun e w'=>e= .returned (.slice A n n)∧w'=w:=by
 go_enter Tryz.func151,Tryz.ntmps151
 go_wp2
 go_ret
 exact ⟨rfl,rfl⟩
theorem Kd (row:List AV):bG Tryz.prog 151 [.sl 4 row] (.sg 4 row):=by
 intro w S vs _ hS hl hr
 obtain ⟨a,rfl⟩:=FC hl rfl
 cases hr 0 a _ rfl rfl with
 | sl A n c e us _ hl hn hc hm ha h =>
  refine (Ke A n c w hc hm).mono fun e w' ⟨he,hw⟩=>?_
  subst hw
  refine ⟨_,[],he,Below.refl _ _,List.nodup_nil,by simp,.inl (.inl (.rep (.sg A n 4 us row hl hn ag (fun h0=>?_) fun j u x hu hx=>(h j u x hu hx).mono fun b hb=>⟨.inl hb,rfl⟩)))⟩
  obtain ⟨ad,e1,e2,e3⟩:=ha h0
  exact ⟨ad,e1,.inl e2,e3⟩
theorem G4 (A:Option Addr) (n c:Nat) (w:World) (hc:n≤c) (hm:c≤maxLen):Calls Tryz.prog 153 #[.slice A n c] w fun e w'=>e= .returned (.slice A n n)∧w'=w:=by
 go_enter Tryz.func153,Tryz.ntmps153
 go_wp2
 go_ret
 exact ⟨rfl,rfl⟩
theorem G3 (row:List AV):bG Tryz.prog 153 [.sl 7 row] (.sg 7 row):=by
 intro w S vs _ hS hl hr
 obtain ⟨a,rfl⟩:=FC hl rfl
 cases hr 0 a _ rfl rfl with
 | sl A n c e us _ hl hn hc hm ha h =>
  refine (G4 A n c w hc hm).mono fun e w' ⟨he,hw⟩=>?_
  subst hw
  refine ⟨_,[],he,Below.refl _ _,List.nodup_nil,by simp,.inl (.inl (.rep (.sg A n 7 us row hl hn ag (fun h0=>?_) fun j u x hu hx=>(h j u x hu hx).mono fun b hb=>⟨.inl hb,rfl⟩)))⟩
  obtain ⟨ad,e1,e2,e3⟩:=ha h0
  exact ⟨ad,e1,.inl e2,e3⟩
end Go.Proofs.YtjgbhhnghedgdaaGreatDoor
