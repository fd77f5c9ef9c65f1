import Derived.Test.YtjgbhhnghedgdaaGreatDoorZpGrB3
set_option linter.all false
namespace Go.Proofs.YtjgbhhnghedgdaaGreatDoor
open Go.RowKit
set_option maxRecDepth 100000
set_option maxHeartbeats 4000000
theorem tK (leaf:Int) (m:UInt64) (s:List UInt64):bK Tryz.prog 114 [ai leaf,aw m,.sl 1 (ah s)] (.br [aw (om leaf m s),ai (ll s)]):=by
 by_cases hs:s.length=18
 case neg =>
  have e1:om leaf m s=0:=if_neg hs
  have e2:ll s=4:=if_neg hs
  refine zO Tryz.func114 37<|zq<|zS<|zP 1 [yH [(1,{k:=s.length})]] [.aa [13,7,6,0,1,2] []] [yI (aB s)]<|dr 13 ((↑s.length:Int) != (18:Int)) (by simp;omega)<|zq<|dt (zV [yK 0 (wv (om leaf m s)) (by rw [e1];rfl),yJ 4 (ll s) (by rw [e2])])
 have e1:om leaf m s=combine leaf (cM leaf m s 18):=if_pos hs
 have e2:ll s=0:=if_pos hs
 have hd:=nC m
 refine zO Tryz.func114 37<|zq<|zS<|zP 1 [yH [(1,{k:=s.length})]] [.aa [13,7,6,0,1,2] []] [yI (aB s)]<|bj 13 ((↑s.length:Int) != (18:Int)) (by simp_all)<|a7<|zQ 2 [yH [(1,yV (AV.own 1 (ax (b_ m))))],{}] [yI (mF m),yB (ld (ax (b_ m))) (vN _)]<|zS<|zq<|zB 0 (zL (fun (k:Nat)=>(⟨[(8,AV.ref 15),(13,ao ((↑s.length:Int) != (18:Int))),(7,ai 0),(6,dW),(0,ai leaf),(1,aw m),(2,AV.sl 1 (ah s)),(10,ai k),(9,AV.ref 31)],[(15,⟨1,true,false,ax (b_ m)⟩),(31,⟨1,true,false,ah (cM leaf m s k)⟩)]⟩:AS)) (fun k=>(k≤18)) (fun k=>(18-k)) (0) ?_ (zW [.nil 9 31 1,.aa [8,13,7,6,0,1,2,10,9] [15,31]]) ?_)
 ·omega
 intro k hk
 have hl:=z8 leaf m s k
 refine zS<|zq (zD 17 ((↑k:Int)<18) (fun h=>?_) (fun h=>?_))
 ·skip
  refine a7<|zS<|zB 1<|zX ({hs:=[(5,{k:=k}),(6,yV (ai ((b_ m).getD k (0:Int)))),(9,{k:=k}),(10,yV (aw (s.getD k 0))),(11,yV (aw (run leaf (↑k:Int) ((b_ m).getD k (0:Int)) (15:Int) (s.getD k 0)))),(12,yV (AV.arr (ah [run leaf (↑k:Int) ((b_ m).getD k (0:Int)) (15:Int) (s.getD k 0)]))),(13,yV (AV.arr (ah (cM leaf m s k++ [run leaf (↑k:Int) ((b_ m).getD k (0:Int)) (15:Int) (s.getD k 0)]))))],T:=13}) [yR (↑k:Int),yO (k<18),yB ((ax (b_ m))[k]?=some (ai ((b_ m).getD k (0:Int)))) (lO aj),yR (↑k:Int),yB (k<(ah s).length) (by simp only [aB];omega),yB ((ah s)[k]?=some (aw (s.getD k 0))) (dB aj),yI (oS leaf ((↑k:Int)) ((b_ m).getD k (0:Int)) ((15:Int)) (s.getD k 0)),yR [aw (run leaf (↑k:Int) ((b_ m).getD k (0:Int)) (15:Int) (s.getD k 0))],yB (ah (cM leaf m s k)++ah [run leaf (↑k:Int) ((b_ m).getD k (0:Int)) (15:Int) (s.getD k 0)]=ah (cM leaf m s k++ [run leaf (↑k:Int) ((b_ m).getD k (0:Int)) (15:Int) (s.getD k 0)])) (ja _ _),yB (((ah (cM leaf m s k)).length+1)*8≤140737488355328) (by simp only [aB];omega)]<|aL<|ak<|zX (yH [(1,yV (ai ((↑k:Int)+1)))]) [yN ((↑k:Int)+1)] (aH (k+1) aj aj (eJ [.sm 33 31,.aa [8,13,7,6,0,1,2,10,9] [15,31]] [] [31] [yB (ah (cM leaf m s k++ [run leaf (↑k:Int) ((b_ m).getD k (0:Int)) (15:Int) (s.getD k 0)])=ah (cM leaf m s (k+1))) (congrArg ah (EZ leaf m s k).symm)]))
 ·have e:k=18:=aj
  subst e
  refine zE 0<|a_<|aP<|bo<|ak<|zP 1 [yH [(2,yV (aw (combine leaf (cM leaf m s 18))))]] [.aa [7,6,17,8,13,0,1,2,10,9] [15,31]] [yI (rN leaf (cM leaf m s 18) (by assumption))]<|zR (zV [yK (wv (combine leaf (cM leaf m s 18))) (wv (om leaf m s)) (by rw [e1]),yJ 0 (ll s) (by rw [e2])])
theorem vo (h:Int) (r m:UInt64) (leaf:Int) (C P:List UInt64):bK Tryz.prog 69 [.agg [ai h,aw r],aw m,.agg [ai leaf,.sl 1 (ah C),.sl 1 (ah P)]] (ai (kp h r m leaf C P)):=by
 by_cases eU:i3 h leaf
 ·have e1:kp h r m leaf C P=9:=if_pos eU
  rw [e1]
  unfold i3 at eU
  by_cases hb:bz h
  ·refine zO Tryz.func69 84<|zq<|zS<|zP 1 [yH [(2,yV (ao (!decide (bz h))))]] [.aa [27,6,5,3,0,1,2] [5,3]] ([yI (ck h)]++yM 4 (yS ((!!decide (bz h))=true))++yM 8 (yR true))<|zT 27<|zq<|dt (bU)
  have q7:0≤h∧h≤4:=by unfold bz at hb;omega
  obtain ⟨k,rfl⟩:=Int.eq_ofNat_of_zero_le q7.1
  rw [Int.toNat_natCast] at eU
  have hk:k≤4:=aj
  by_cases dd:leaf<0
  ·refine zO Tryz.func69 84<|zq<|zS<|zP 1 [yH ([(2,yV (ao (!decide (bz (↑k:Int))))),(8,{b:=false})]++yg [5,6,7])] [.aa [27,6,5,3,0,1,2] [5,3]] ([yI (ck ((↑k:Int)))]++yM 4 (yS ((!!decide (bz (↑k:Int)))=false))++yM 8 (yT (leaf<0)))<|zT 27<|zq<|dt (bU)
  have uz:((2^k:Nat):Int)≤leaf:=by rcases eU with h|h|h<;>first|exact absurd h hb|exact absurd h dd|exact h
  have hp:2^k≤16:=Nat.pow_le_pow_right (by decide) (by omega:k≤4)
  have Cf:IntKind.i64.wrap (1*2^min (wv (u64 (k:Int))).toNat IntKind.i64.bits)=((2^k:Nat):Int):=by
   rcases (aj:k=0∨k=1∨k=2∨k=3∨k=4) with rfl|rfl|rfl|rfl|rfl<;>decide +kernel
  have JA:(0:Int)≤wv (u64 (k:Int)):=Int.natCast_nonneg _
  generalize 2^k=p2 at *
  refine zO Tryz.func69 84<|zq<|zS<|zP 1 [yH ([(2,yV (ao (!decide (bz (↑k:Int))))),(8,{b:=false}),(14,{av:=some (aw (u64 (↑k:Int))),g:=false}),(15,{av:=some (ai ↑p2),g:=false}),(17,{b:=false})]++yg [5,6,7,10,11,12,13,16])] [.aa [27,6,5,3,0,1,2] [5,3]] ([yI (ck ((↑k:Int)))]++yM 4 (yS ((!!decide (bz (↑k:Int)))=false))++yM 5 (yF (leaf<0))++ [yI (a8 ((↑k:Int))),yF (leaf<0),yI (yc Cf),yI JA]++yM 2 (yF (leaf<0)))<|ib 27 (leaf≥(↑p2:Int))<|zq<|dt (bU)
 have hv:kp h r m leaf C P=if C.length≠18∨(P.length:Int)≠h then 4 else if dn leaf.toNat P (combine leaf (cM leaf m C 18)) h.toNat=r then 0 else 15:=if_neg eU
 unfold i3 bz at eU
 have q7:0≤h∧h≤4∧0≤leaf:=aj
 obtain ⟨k,rfl⟩:=Int.eq_ofNat_of_zero_le q7.1
 obtain ⟨i,rfl⟩:=Int.eq_ofNat_of_zero_le q7.2.2
 rw [Int.toNat_natCast] at eU
 rw [Int.toNat_natCast,Int.toNat_natCast] at hv
 have hk:k≤4:=aj
 have hb:¬bz (k:Int):=by unfold bz;omega
 have ho:¬((i:Int)<0∨((2^k:Nat):Int)≤i):=aj
 have hp:2^k≤16:=Nat.pow_le_pow_right (by decide) hk
 have Cf:IntKind.i64.wrap (1*2^min (wv (u64 (k:Int))).toNat IntKind.i64.bits)=((2^k:Nat):Int):=by
  rcases (aj:k=0∨k=1∨k=2∨k=3∨k=4) with rfl|rfl|rfl|rfl|rfl<;>decide +kernel
 have JA:(0:Int)≤wv (u64 (k:Int)):=Int.natCast_nonneg _
 rw [hv]
 by_cases hC:C.length=18
 case neg =>
  rw [if_pos (.inl hC)]
  refine zO Tryz.func69 84<|zq<|zS<|zP 1 [yH ([(2,yV (ao (!decide (bz (↑k:Int))))),(8,{b:=false}),(14,{av:=some (aw (u64 (↑k:Int))),g:=false}),(15,{av:=some (ai (↑((2:Nat)^k):Int)),g:=false}),(17,{b:=false})]++yg [5,6,7,10,11,12,13,16])] [.aa [27,6,5,3,0,1,2] [5,3]] ([yI (ck ((↑k:Int)))]++yM 4 (yS ((!!decide (bz (↑k:Int)))=false))++yM 5 (yR false)++ [yI (a8 ((↑k:Int))),yR false,yI (yc Cf),yI JA,yR false,yR false])<|dp 27 ((↑i:Int)≥(↑((2:Nat)^k):Int))<|a7<|zS<|zP 1 [yH [(2,{k:=C.length})]] [.aa [39,27,6,5,3,0,1,2] [5,3]] ([yI (aB C)]++yM 7 (yB (((↑C.length:Int) != (18:Int))=true) (by simp;omega)))<|zT 39<|zq<|dt (bU)
 by_cases hP:P.length=k
 case neg =>
  rw [if_pos (.inr aj)]
  refine zO Tryz.func69 84<|zq<|zS<|zP 1 [yH ([(2,yV (ao (!decide (bz (↑k:Int))))),(8,{b:=false}),(14,{av:=some (aw (u64 (↑k:Int))),g:=false}),(15,{av:=some (ai (↑((2:Nat)^k):Int)),g:=false}),(17,{b:=false})]++yg [5,6,7,10,11,12,13,16])] [.aa [27,6,5,3,0,1,2] [5,3]] ([yI (ck ((↑k:Int)))]++yM 4 (yS ((!!decide (bz (↑k:Int)))=false))++yM 5 (yR false)++ [yI (a8 ((↑k:Int))),yR false,yI (yc Cf),yI JA,yR false,yR false])<|dp 27 ((↑i:Int)≥(↑((2:Nat)^k):Int))<|a7<|zS<|zP 1 [yH ([(2,{k:=C.length}),(7,{k:=P.length,g:=false}),(11,{b:=false})]++yg [5,6,8,9,10])] [.aa [39,27,6,5,3,0,1,2] [5,3]] ([yI (aB C)]++yM 3 (yS (((↑C.length:Int) != (18:Int))=false))++ [yI (aB P)]++yM 4 (yS (((↑C.length:Int) != (18:Int))=false)))<|dr 39 ((↑P.length:Int) != (↑k:Int)) (by simp;omega)<|zq<|dt (bU)
 rw [if_neg aj]
 have hr:om i m C=combine i (cM i m C 18):=if_pos hC
 have he:ll C=0:=if_pos hC
 refine zO Tryz.func69 84<|zq<|zS<|zP 1 [yH ([(2,yV (ao (!decide (bz (↑k:Int))))),(8,{b:=false}),(14,{av:=some (aw (u64 (↑k:Int))),g:=false}),(15,{av:=some (ai (↑((2:Nat)^k):Int)),g:=false}),(17,{b:=false})]++yg [5,6,7,10,11,12,13,16])] [.aa [27,6,5,3,0,1,2] [5,3]] ([yI (ck ((↑k:Int)))]++yM 4 (yS ((!!decide (bz (↑k:Int)))=false))++yM 5 (yR false)++ [yI (a8 ((↑k:Int))),yR false,yI (yc Cf),yI JA,yR false,yR false])<|dp 27 ((↑i:Int)≥(↑((2:Nat)^k):Int))<|a7<|zS<|zP 1 [yH ([(2,{k:=C.length}),(7,{k:=P.length,g:=false}),(11,{b:=false})]++yg [5,6,8,9,10])] [.aa [39,27,6,5,3,0,1,2] [5,3]] ([yI (aB C)]++yM 3 (yS (((↑C.length:Int) != (18:Int))=false))++ [yI (aB P)]++yM 4 (yS (((↑C.length:Int) != (18:Int))=false)))<|bj 39 ((↑P.length:Int) != (↑k:Int)) (by simp_all)<|a7<|zP 1 [yH [(5,yV (AV.br [aw (om (↑i:Int) m C),ai (ll C)]))]] [.aa [7,39,27,6,5,3,0,1,2] [5,3]] [yI (tK ((↑i:Int)) m C)]<|zS<|zq<|zB 0 (zL (fun (j:Nat)=>(⟨[(39,ao ((↑P.length:Int) != (↑k:Int))),(27,ao (decide ((↑i:Int)≥(↑((2:Nat)^k):Int)))),(6,ai 0),(5,AV.addr 5 0),(3,AV.addr 3 0),(0,AV.agg [ai ↑k,aw r]),(1,aw m),(2,AV.agg [ai ↑i,AV.sl 1 (ah C),AV.sl 1 (ah P)]),(9,ai j),(7,aw (dn i P (combine i (cM i m C 18)) j))],[(5,⟨1,false,true,[ai ↑i,AV.sl 1 (ah C),AV.sl 1 (ah P)]⟩),(3,⟨1,false,true,[ai ↑k,aw r]⟩)]⟩:AS)) (fun j=>(j≤k)) (fun j=>(k-j)) (0) ?_ (eJ [.aa [39,27,6,5,3,0,1,2,9,7] [5,3]] [7] [] [yB (aw (om (↑i:Int) m C)=aw (dn i P (combine (↑i:Int) (cM (↑i:Int) m C 18)) 0)) (congrArg aw hr)]) ?_)
 ·omega
 intro j hj
 refine zS<|bf.pG 1 [{}] [.aa [52,39,27,6,5,3,0,1,2,9,7] [5,3]] bD (s':=AS.mk [(52,ao (decide ((↑j:Int)<(↑k:Int)))),(39,ao ((↑P.length:Int) != (↑k:Int))),(27,ao (decide ((↑i:Int)≥(↑((2:Nat)^k):Int)))),(6,ai 0),(5,AV.addr 5 0),(3,AV.addr 3 0),(0,AV.agg [ai ↑k,aw r]),(1,aw m),(2,AV.agg [ai ↑i,AV.sl 1 (ah C),AV.sl 1 (ah P)]),(9,ai ↑j),(7,aw (dn i P (combine (↑i:Int) (cM (↑i:Int) m C 18)) j))] [(5,Row.mk 1 false true [ai ↑i,AV.sl 1 (ah C),AV.sl 1 (ah P)]),(3,Row.mk 1 false true [ai ↑k,aw r])]) (C:=[]) bD trivial (zD 52 ((↑j:Int)<(↑k:Int)) (fun g=>?_) (fun g=>?_))
 ·have hs:=zl i j aj
  have hle:i/2^j≤i:=Nat.div_le_self ..
  have hq:i/2^j<16:=aj
  have ha:=EA _ hq
  have Mw:(0:Int)≤wv (u64 (j:Int)):=Int.natCast_nonneg _
  have Rp:IntKind.i64.wrap ((j:Int)+1)=((j+1:Nat):Int):=by rw [eY aj aj];omega
  have hc:dn i P (combine i (cM i m C 18)) (j+1)=if i/2^j%2=0 then gO ((j+1:Nat):Int) (dn i P (combine i (cM i m C 18)) j) (P.getD j 0) else gO ((j+1:Nat):Int) (P.getD j 0) (dn i P (combine i (cM i m C 18)) j):=rfl
  generalize i/2^j=q at *
  generalize hx:dn i P (combine i (cM i m C 18)) j=x at *
  by_cases h2:q%2=0
  ·rw [if_pos h2] at hc
   generalize q%2=q2 at *
   refine a7<|zS<|zB 1<|zP 1 [yH [(3,yV (aw (u64 (↑j:Int)))),(4,yV (ai ↑q)),(5,yV (ai ↑q2))]] [.aa [61,52,39,27,6,5,3,0,1,2,9,7] [5,3]] [yI (a8 ((↑j:Int))),yI (yc hs),yI Mw,yI (yc ha)]<|dr 61 ((↑q2:Int) == (0:Int)) fi<|zX (yH [(1,yV (ai (↑(j+1):Int))),(6,{k:=j}),(7,yV (aw (P.getD j 0))),(8,yV (aw (gO (↑(j+1):Int) x (P.getD j 0))))]) [yB (ai (IntKind.i64.wrap ((↑j:Int)+1))=ai (↑(j+1):Int)) (d_ aj aj),yR (↑j:Int),yB (j<(ah P).length) (by simp only [aB];omega),yB ((ah P)[j]?=some (aw (P.getD j 0))) (dB aj),yI (lk (↑(j+1):Int) x (P.getD j 0))]<|aL<|ak<|bf.OA {hs:=[(1,{av:=some (ai ((↑j:Int)+1))})]} (s':=AS.mk [(9,ai ((↑j:Int)+1)),(54,ai ((↑j:Int)+1)),(53,ai ↑j),(7,aw (gO (↑(j+1):Int) x (P.getD j 0))),(70,aw (gO (↑(j+1):Int) x (P.getD j 0))),(69,aw (P.getD j 0)),(68,AV.ptr (ah P) j),(67,ai ↑j),(66,AV.sl 1 (ah P)),(65,AV.addr 5 2),(64,aw x),(63,ai (↑(j+1):Int)),(62,ai ↑j),(61,ao ((↑q2:Int) == (0:Int))),(52,ao (decide ((↑j:Int)<(↑k:Int)))),(39,ao ((↑P.length:Int) != (↑k:Int))),(27,ao (decide ((↑i:Int)≥(↑((2:Nat)^k):Int)))),(6,ai 0),(5,AV.addr 5 0),(3,AV.addr 3 0),(0,AV.agg [ai ↑k,aw r]),(1,aw m),(2,AV.agg [ai ↑i,AV.sl 1 (ah C),AV.sl 1 (ah P)])] [(5,Row.mk 1 false true [ai ↑i,AV.sl 1 (ah C),AV.sl 1 (ah P)]),(3,Row.mk 1 false true [ai ↑k,aw r])]) (C:=[ai (IntKind.i64.wrap ((↑j:Int)+1))=ai ((↑j:Int)+1)]) bD ⟨(d_ aj aj),trivial⟩ (aH (j+1) aj aj (eJ [.aa [39,27,6,5,3,0,1,2,9,7] [5,3]] [7] [] [yB (aw (gO (↑(j+1):Int) x (P.getD j 0))=aw (dn i P (combine (↑i:Int) (cM (↑i:Int) m C 18)) (j+1))) (by rw [hc])]))
  ·rw [if_neg h2] at hc
   generalize q%2=q2 at *
   refine a7<|zS<|zB 1<|zP 1 [yH [(3,yV (aw (u64 (↑j:Int)))),(4,yV (ai ↑q)),(5,yV (ai ↑q2))]] [.aa [61,52,39,27,6,5,3,0,1,2,9,7] [5,3]] [yI (a8 ((↑j:Int))),yI (yc hs),yI Mw,yI (yc ha)]<|bj 61 ((↑q2:Int) == (0:Int)) bE<|zX (yH [(1,yV (ai (↑(j+1):Int))),(5,{k:=j}),(6,yV (aw (P.getD j 0))),(8,yV (aw (gO (↑(j+1):Int) (P.getD j 0) x)))]) [yB (ai (IntKind.i64.wrap ((↑j:Int)+1))=ai (↑(j+1):Int)) (d_ aj aj),yR (↑j:Int),yB (j<(ah P).length) (by simp only [aB];omega),yB ((ah P)[j]?=some (aw (P.getD j 0))) (dB aj),yI (lk (↑(j+1):Int) (P.getD j 0) x)]<|aL<|ak<|zX (yH [(1,yV (ai ((↑j:Int)+1)))]) [yN ((↑j:Int)+1)] (aH (j+1) aj aj (eJ [.aa [39,27,6,5,3,0,1,2,9,7] [5,3]] [7] [] [yB (aw (gO (↑(j+1):Int) (P.getD j 0) x)=aw (dn i P (combine (↑i:Int) (cM (↑i:Int) m C 18)) (j+1))) (by rw [hc])]))
 ·have e:j=k:=aj
  subst e
  by_cases j8:dn i P (combine i (cM i m C 18)) j=r
  ·rw [if_pos j8]
   refine zE 0<|a_<|aP<|bo<|ak<|zS<|zP 1 [yH [(3,yV (ao (dn i P (combine (↑i:Int) (cM (↑i:Int) m C 18)) j != r)))]] [.aa [83,52,39,27,6,5,3,0,1,2,9,7] [5,3]] [yI (cI (dn i P (combine (↑i:Int) (cM (↑i:Int) m C 18)) j) r)]<|bj 83 (dn i P (combine (↑i:Int) (cM (↑i:Int) m C 18)) j != r) (by simp_all)<|a7<|zq<|zR (bU)
  ·rw [if_neg j8]
   refine zE 0<|a_<|aP<|bo<|ak<|zS<|zP 1 [yH [(3,yV (ao (dn i P (combine (↑i:Int) (cM (↑i:Int) m C 18)) j != r)))]] [.aa [83,52,39,27,6,5,3,0,1,2,9,7] [5,3]] [yI (cI (dn i P (combine (↑i:Int) (cM (↑i:Int) m C 18)) j) r)]<|dr 83 (dn i P (combine (↑i:Int) (cM (↑i:Int) m C 18)) j != r) (by simp_all)<|zq<|dt (bU)
theorem Cq (m:Mem) (h:List UInt8):bK Tryz.prog 111 [.agg (aI m),.ptr [cZ h] 0] (ao (m.name == h)):=by
 refine zO Tryz.func111 8<|zP 2 [{},yH [(3,yV (ao (m.name == h)))]] [.aa [3,2,0,1] [2]] [yI (fY m.name h)]<|zR (bU)
theorem Cs (l:List Mem) (h:List UInt8) (yW:l.length≤1000000):bK Tryz.prog 110 [.sl 4 (af aI l),.lB 111 [.ptr [cZ h] 0]] (ai (dC l h)):=by
 have hl:(af aI l).length=l.length*4:=aE (e:=4) (fun _=>rfl) ..
 refine zO Tryz.func110 19<|zq<|zS<|zQ 1 [yH [(1,{k:=l.length})]] [yI hl]<|zB 0 (zL (fun (i:Nat)=>(⟨[(7,ai (↑l.length:Int)),(0,AV.sl 4 (af aI l)),(1,AV.lB 111 [AV.ptr [cZ h] 0]),(8,ai i)],[]⟩:AS)) (fun i=>(i≤l.length∧ ∀j,j<i->(l.getD j default).name≠h)) (fun i=>(l.length-i)) (0) ?_ (zW [.aa [7,0,1,8] []]) ?_)
 ·exact ⟨aj,aj⟩
 rintro i ⟨hi,gb⟩
 refine zq<|zS (zD 9 ((↑i:Int)<(↑l.length:Int)) (fun g=>?_) (fun g=>?_))
 ·have dD:i<l.length:=aj
  have hc:=Cq (l.getD i default) h
  by_cases e:(l.getD i default).name=h
  ·have hf:=xA dD gb e
   refine a7<|zS<|zB 1<|zP 2 [{},yH [(3,{k:=i}),(4,yV (AV.agg (aI (l.getD i default)))),(5,yV (ao ((l.getD i default).name == h)))]] [.aa [16,5,9,7,0,1,8] []] [yR (↑i:Int),yO (i*4<(af aI l).length),yu aI l i 0 4,yR 4,yI hc]<|dr 16 ((l.getD i default).name == h) (by simp_all)<|zq<|zR<|bc<|aK<|dz<|bc<|aK (zV [yJ (↑i:Int) (dC l h) (by rw [hf])])
  ·skip
   refine a7<|zS<|zB 1<|zP 2 [{},yH [(3,{k:=i}),(4,yV (AV.agg (aI (l.getD i default)))),(5,yV (ao ((l.getD i default).name == h)))]] [.aa [16,5,9,7,0,1,8] []] [yR (↑i:Int),yO (i*4<(af aI l).length),yu aI l i 0 4,yR 4,yI hc]<|bj 16 ((l.getD i default).name == h) (by simp_all)<|zK<|aL<|ak<|zX (yH [(0,yV (ai ((↑i:Int)+1)))]) [yN ((↑i:Int)+1)] (aH (i+1) ⟨aj,fun j hj=>by by_cases e2:j=i;(subst e2;exact e);exact gb j aj⟩ aj (zW [.aa [7,0,1,8] []]))
 ·have hf:=xy (l:=l) (h:=h) (fun j hj=>gb j aj)
  refine zE 0<|a_<|aP<|bo<|ak<|zq<|zR (zV [yJ (-1:Int) (dC l h) (by rw [hf])])
theorem nw (g:gB) (h:List UInt8) (yW:g.al.length≤1000000):bK Tryz.prog 61 [.agg (bV g),cZ h] (ai (dC g.al h)):=by
 refine zO Tryz.func61 9<|zP 2 [{},yH [(3,yV (ai (dC g.al h)))]] [.aa [4,3,2,0,1] [2]] [yI (Cs g.al h yW)]<|zR (bU)
theorem l_ (l:List Mem) (h:List UInt8) (yW:l.length≤1000000):bK Tryz.prog 64 [.sl 4 (af aI l),cZ h] (ai (dC l h)):=by
 have hl:(af aI l).length=l.length*4:=aE (e:=4) (fun _=>rfl) ..
 refine zO Tryz.func64 20<|zq<|zS<|zq<|zB 0 (zL (fun (i:Nat)=>(⟨[(0,AV.sl 4 (af aI l)),(1,cZ h),(5,ai i)],[]⟩:AS)) (fun i=>(i≤l.length∧ ∀j,j<i->(l.getD j default).name≠h)) (fun i=>(l.length-i)) (0) ?_ (zW [.aa [0,1,5] []]) ?_)
 ·exact ⟨aj,aj⟩
 rintro i ⟨hi,gb⟩
 refine zS<|zP 1 [yH [(2,{k:=l.length})]] [.aa [9,0,1,5] []] [yI hl] (zD 9 ((↑i:Int)<(↑l.length:Int)) (fun g=>?_) (fun g=>?_))
 ·have dD:i<l.length:=aj
  by_cases e:(l.getD i default).name=h
  ·have hf:=xA dD gb e
   refine a7<|zS<|zB 1<|zP 1 [yH [(2,{k:=i}),(4,yV (cZ (l.getD i default).name)),(6,yV (ao ((l.getD i default).name == h)))]] [.aa [18,9,0,1,5] []] [yR (↑i:Int),yO (i*4<(af aI l).length),yA aI l i 0,yI (fY ((l.getD i default).name) h)]<|dr 18 ((l.getD i default).name == h) (by simp_all)<|zq<|zR<|bc<|aK<|dz<|bc<|aK (zV [yJ (↑i:Int) (dC l h) (by rw [hf])])
  ·skip
   refine a7<|zS<|zB 1<|zP 1 [yH [(2,{k:=i}),(4,yV (cZ (l.getD i default).name)),(6,yV (ao ((l.getD i default).name == h)))]] [.aa [18,9,0,1,5] []] [yR (↑i:Int),yO (i*4<(af aI l).length),yA aI l i 0,yI (fY ((l.getD i default).name) h)]<|bj 18 ((l.getD i default).name == h) (by simp_all)<|zK<|aL<|ak<|zX (yH [(1,yV (ai ((↑i:Int)+1)))]) [yN ((↑i:Int)+1)] (aH (i+1) ⟨aj,fun j hj=>by by_cases e2:j=i;(subst e2;exact e);exact gb j aj⟩ aj (zW [.aa [0,1,5] []]))
 ·have hf:=xy (l:=l) (h:=h) (fun j hj=>gb j aj)
  refine zE 0<|a_<|aP<|bo<|ak<|zq<|zR (zV [yJ (-1:Int) (dC l h) (by rw [hf])])
def CZ (l:List mU) (p:UInt64):Int:=if vi l p<l.length then (vi l p:Int) else -1
theorem pH (l:List mU) (p:UInt64) (yW:l.length≤1000000):bK Tryz.prog 112 [.sl 7 (af bg l),aw p] (ai (CZ l p)):=by
 have hl:(af bg l).length=l.length*7:=aE (e:=7) (fun _=>rfl) ..
 refine zO Tryz.func112 20<|zq<|zS<|zq<|zB 0 (zL (fun (i:Nat)=>(⟨[(0,AV.sl 7 (af bg l)),(1,aw p),(5,ai i)],[]⟩:AS)) (fun i=>(i≤l.length∧ ∀j,j<i->(l.getD j default).bF≠p)) (fun i=>(l.length-i)) (0) ?_ (zW [.aa [0,1,5] []]) ?_)
 ·exact ⟨aj,aj⟩
 rintro i ⟨hi,gb⟩
 refine zS<|zP 1 [yH [(2,{k:=l.length})]] [.aa [9,0,1,5] []] [yI hl] (zD 9 ((↑i:Int)<(↑l.length:Int)) (fun g=>?_) (fun g=>?_))
 ·have dD:i<l.length:=aj
  by_cases e:(l.getD i default).bF=p
  ·have hf:=Iv dD gb e
   refine a7<|zS<|zB 1<|zP 1 [yH [(2,{k:=i}),(4,yV (aw ((l.getD i default).bF))),(6,yV (ao ((l.getD i default).bF == p)))]] [.aa [18,9,0,1,5] []] [yR (↑i:Int),yO (i*7<(af bg l).length),yA bg l i 0,yI (fm ((l.getD i default).bF) p)]<|dr 18 ((l.getD i default).bF == p) fi<|zq<|zR<|bc<|aK<|dz<|bc<|aK (zV [yJ (↑i:Int) (CZ l p) (by unfold CZ;rw [hf,if_pos dD])])
  ·skip
   refine a7<|zS<|zB 1<|zP 1 [yH [(2,{k:=i}),(4,yV (aw ((l.getD i default).bF))),(6,yV (ao ((l.getD i default).bF == p)))]] [.aa [18,9,0,1,5] []] [yR (↑i:Int),yO (i*7<(af bg l).length),yA bg l i 0,yI (fm ((l.getD i default).bF) p)]<|bj 18 ((l.getD i default).bF == p) bE<|zK<|aL<|ak<|zX (yH [(1,yV (ai ((↑i:Int)+1)))]) [yN ((↑i:Int)+1)] (aH (i+1) ⟨aj,fun j hj=>by by_cases e2:j=i;(subst e2;exact e);exact gb j aj⟩ aj (zW [.aa [0,1,5] []]))
 ·have hf:=Iu (l:=l) (p:=p) (fun j hj=>gb j aj)
  refine zE 0<|a_<|aP<|bo<|ak<|zq<|zR (zV [yJ (-1:Int) (CZ l p) (by unfold CZ;rw [hf,if_neg (Nat.lt_irrefl _)])])
theorem jm {l:List gA} {i:Nat} (h:i<l.length):List.take 4 (List.drop (i*4) (af aU l))=aU (l.getD i default):=km (e:=4) (fun _=>rfl) h
theorem ua {l:List Mem} {n:List UInt8} {k:Nat} (h:dC l n=k):Kg l n=l.getD k default:=by unfold Kg;rw [h];rfl
def He (l:List gA) (i:Nat):Prop:=0<i∧Fa (l.getD i default).name (l.getD (i-1) default).name=true
theorem Oo {g:gB} {w:UInt64} {l:List gA} {i:Nat} (h:He l i):jR g w l i=7:=if_pos h
theorem Lo {g:gB} {w:UInt64} {l:List gA} {i:Nat} (h:¬He l i) (h2:dC g.al (l.getD i default).name<0):jR g w l i=11:=(if_neg h).trans (if_pos h2)
section
variable {g:gB} {w:UInt64} {l:List gA} {i k:Nat} (h:¬He l i) (h2:dC g.al (l.getD i default).name=k)
include h h2
theorem Gm {e:Int} (he:kp (g.al.getD k default).h (g.al.getD k default).r w (l.getD i default).leaf (l.getD i default).fU (l.getD i default).path=e) (h0:e≠0):jR g w l i=e:=by
 refine (if_neg h).trans ?_;rw [if_neg aj,ua h2,he,if_pos h0]
theorem wW (he:kp (g.al.getD k default).h (g.al.getD k default).r w (l.getD i default).leaf (l.getD i default).fU (l.getD i default).path=0):jR g w l i=if (g.al.getD k default).used&&&gy (l.getD i default).leaf≠0 then 37 else 0:=by
 refine (if_neg h).trans ?_;rw [if_neg aj,ua h2,he,if_neg aj]
end
theorem kW {g:gB} {w:UInt64} {l:List gA} {i:Nat} (hi:i<l.length) (h0:ff (jR g w l) i=0) {e:Int} (he:jR g w l i=e) (hn:e≠0):fv g w l=e:=by
 have k2:ff (jR g w l) (i+1)=e:=by show (if _ then _ else _)=_;rw [if_neg aj,he]
 have:=k9 hn k2 l.length hi
 unfold fv
 rw [this,if_pos hn]
theorem Jf (g:gB) (w:UInt64) (V:List gA) (hm:g.al.length≤1000) (hv:V.length≤1000000):bK Tryz.prog 58 [.agg (bV g),.sl 4 (af aU V),aw w] (ai (fv g w V)):=by
 have uq:(af aU V).length=V.length*4:=aE (e:=4) (fun _=>rfl) ..
 have l0:(af aI g.al).length=g.al.length*4:=aE (e:=4) (fun _=>rfl) ..
 refine zO Tryz.func58 68<|zq<|zS<|zQ 1 [yH [(1,{k:=V.length})]] [yI uq]<|zB 0 (zL (fun (i:Nat)=>(⟨[(12,ai (↑V.length:Int)),(11,AV.sl 4 (af aU V)),(3,AV.addr 3 0),(0,AV.agg (bV g)),(1,AV.sl 4 (af aU V)),(2,aw w),(13,ai i)],[(3,⟨1,false,true,List.map (aR 3) (bV g)⟩)]⟩:AS)) (fun i=>(i≤V.length∧ff (jR g w V) i=0)) (fun i=>(V.length-i)) (0) ?_ (zW [.aa [12,11,3,0,1,2,13] [3]]) ?_)
 ·exact ⟨aj,rfl⟩
 rintro i ⟨hi,h0⟩
 refine zq<|zS (zD 14 ((↑i:Int)<(↑V.length:Int)) (fun q=>?_) (fun q=>?_))
 ·have dD:i<V.length:=aj
  have gT:=jm dD
  refine a7<|zS<|zB 1<|zP 1 [yH [(1,{k:=i}),(2,yV (AV.agg (aU (V.getD i default))))]] [.aa [7,8,14,12,11,3,0,1,2,13] [8,3]] [yR (↑i:Int),yO (i*4<(af aU V).length),yu aU V i 0 4,yR 4,yL 4 4] (bf.k7 (fun (u:Unit)=>(⟨[(7,ai ↑i),(8,AV.addr 8 0),(14,ao (decide ((↑i:Int)<(↑V.length:Int)))),(12,ai (↑V.length:Int)),(11,AV.sl 4 (af aU V)),(3,AV.addr 3 0),(0,AV.agg (bV g)),(1,AV.sl 4 (af aU V)),(2,aw w),(13,ai ↑i)],[(8,⟨1,false,true,(aU (V.getD i default))⟩),(3,⟨1,false,true,List.map (aR 8) (List.map (aR 3) (bV g))⟩)]⟩:AS)) (fun u=>(¬He V i)) bD ?_ ?_)
  ·by_cases c6:0<i
   ·obtain ⟨k,hk⟩:∃k,k+1=i:=⟨i-1,aj⟩
    have xO:=jm (l:=V) (i:=k) aj
    have ek:i-1=k:=aj
    by_cases c7:Fa (V.getD i default).name (V.getD k default).name=true
    ·have k1:=kW dD h0 (Oo (g:=g) (w:=w) ⟨c6,by rw [ek];exact c7⟩) aj
     refine zP 1 [{hs:=[(7,yV (ai ↑k)),(8,{k:=k}),(10,yV (cZ (V.getD k default).name))],T:=11}] [.aa [30,7,8,14,12,11,3,0,1,2,13] [8,3]] (yM 5 (yT ((↑i:Int)>0))++ [yB (ai (IntKind.i64.wrap ((↑i:Int)-1))=ai ↑k) (congrArg (fun n=>AV.val (.int .i64 n)) (by rw [IntKind.wrap_i64];omega)),yT ((↑i:Int)>0),yR (↑k:Int),yO (k*4<(af aU V).length)]++yM 2 (yT ((↑i:Int)>0))++ [yA aU V k 0]++yM 2 (yT ((↑i:Int)>0)))<|dr 30 (Op.bytesLess (ByteArray.mk (V.getD i default).name.toArray).toList (ByteArray.mk (V.getD k default).name.toArray).toList || (ByteArray.mk (V.getD i default).name.toArray).toList == (ByteArray.mk (V.getD k default).name.toArray).toList) (by assumption)<|zq<|dt<|bc<|aK<|dz<|bc<|aK (zV [yJ 7 (fv g w V) (by rw [k1])])
    ·have c9:Fa (V.getD i default).name (V.getD k default).name=false:=by simpa using c7
     refine zP 1 [{hs:=[(7,yV (ai ↑k)),(8,{k:=k}),(10,yV (cZ (V.getD k default).name))],T:=11}] [.aa [30,7,8,14,12,11,3,0,1,2,13] [8,3]] (yM 5 (yT ((↑i:Int)>0))++ [yB (ai (IntKind.i64.wrap ((↑i:Int)-1))=ai ↑k) (congrArg (fun n=>AV.val (.int .i64 n)) (by rw [IntKind.wrap_i64];omega)),yT ((↑i:Int)>0),yR (↑k:Int),yO (k*4<(af aU V).length)]++yM 2 (yT ((↑i:Int)>0))++ [yA aU V k 0]++yM 2 (yT ((↑i:Int)>0)))<|bj 30 (Op.bytesLess (ByteArray.mk (V.getD i default).name.toArray).toList (ByteArray.mk (V.getD k default).name.toArray).toList || (ByteArray.mk (V.getD i default).name.toArray).toList == (ByteArray.mk (V.getD k default).name.toArray).toList) (by assumption)<|a7 (⟨(),(fun q=>by have:=q.2;rw [ek] at this;exact c7 this),(zW [.aa [7,8,14,12,11,3,0,1,2,13] [8,3]])⟩)
   ·skip
    refine zP 1 [{hs:=[(3,{g:=false}),(4,{g:=false}),(5,{g:=false}),(6,{g:=false}),(7,{g:=false}),(8,{g:=false}),(9,{g:=false}),(10,{g:=false}),(11,{g:=false}),(12,{b:=false})],T:=11}] [.aa [30,7,8,14,12,11,3,0,1,2,13] [8,3]] (yM 10 (yF ((↑i:Int)>0)))<|zF 30<|a7 (⟨(),(fun q=>c6 q.1),(zW [.aa [7,8,14,12,11,3,0,1,2,13] [8,3]])⟩)
  intro u hu
  have mS:=nw g (V.getD i default).name aj
  rcases gG g.al (V.getD i default).name with hk|⟨k,hk,iF,Pr⟩
  ·have k1:=kW dD h0 (Lo (g:=g) (w:=w) hu aj) aj
   rw [hk] at mS
   refine zP 1 [yH [(3,yV (ai (-1:Int)))]] [.aa [9,7,8,14,12,11,3,0,1,2,13] [8,3]] [yI mS]<|zS<|zq<|ib 36 ((-1:Int)<0)<|zq<|dt<|bc<|aK<|dz<|bc<|aK (zV [yJ 11 (fv g w V) (by rw [k1])])
  have Rv:=mg iF
  rw [hk] at mS
  have Kv:=Bz (g.al.getD k default).h (g.al.getD k default).r w (V.getD i default).leaf (V.getD i default).fU (V.getD i default).path
  by_cases cv:kp (g.al.getD k default).h (g.al.getD k default).r w (V.getD i default).leaf (V.getD i default).fU (V.getD i default).path=0
  case neg =>
   have k1:=kW dD h0 (Gm hu hk rfl cv) cv
   refine zP 1 [yH [(3,yV (ai ↑k))]] [.aa [9,7,8,14,12,11,3,0,1,2,13] [8,3]] [yI mS]<|zS<|zQ 1 [yH [(1,yV (ao false))]] [yR (ao false)]<|zF 36<|a7<|zS<|zP 2 [{hs:=[(3,{k:=k}),(5,yV (AV.agg [ai ((g.al.getD k default).h),aw ((g.al.getD k default).r)])),(9,yV (ai (kp (g.al.getD k default).h (g.al.getD k default).r w (V.getD i default).leaf (V.getD i default).fU (V.getD i default).path)))],T:=9},{}] [.aa [48,10,36,9,7,8,14,12,11,3,0,1,2,13] [8,3]] [yR (↑k:Int),yO (k*4<(af aI g.al).length),yu aI g.al k 1 2,yR 2,yI Kv]<|dr 48 (kp (g.al.getD k default).h (g.al.getD k default).r w (V.getD i default).leaf (V.getD i default).fU (V.getD i default).path != (0:Int)) (by simp_all)<|zP 1 [{}] [.aa [6,48,10,36,9,7,8,14,12,11,3,0,1,2,13] [8,3]] []<|dt<|bc<|aK<|dz<|bc<|aK (zV [yJ (kp (g.al.getD k default).h (g.al.getD k default).r w (V.getD i default).leaf (V.getD i default).fU (V.getD i default).path) (fv g w V) (by rw [k1])])
  have KC:=tp cv
  have hr:=wW hu hk cv
  rw [cv] at Kv
  by_cases cu:(g.al.getD k default).used&&&gy (V.getD i default).leaf=0
  ·rw [if_neg (fun q=>q cu)] at hr
   refine zP 1 [yH [(3,yV (ai ↑k))]] [.aa [9,7,8,14,12,11,3,0,1,2,13] [8,3]] [yI mS]<|zS<|zq<|dp 36 ((↑k:Int)<0)<|a7<|zS<|zP 2 [{hs:=[(3,{k:=k}),(5,yV (AV.agg [ai ((g.al.getD k default).h),aw ((g.al.getD k default).r)])),(9,yV (ai 0))],T:=9},{}] [.aa [48,10,36,9,7,8,14,12,11,3,0,1,2,13] [8,3]] [yR (↑k:Int),yO (k*4<(af aI g.al).length),yu aI g.al k 1 2,yR 2,yI Kv]<|zF 48<|a7<|zP 1 [{hs:=[(3,{k:=k}),(5,yV (aw ((g.al.getD k default).used))),(9,yV (aw (gy (V.getD i default).leaf))),(10,yV (aw ((g.al.getD k default).used&&&gy (V.getD i default).leaf))),(11,yV (ao false))],T:=10}] [.aa [61,48,10,36,9,7,8,14,12,11,3,0,1,2,13] [8,3]] [yR (↑k:Int),yO (k*4<(af aI g.al).length),yA aI g.al k 3,yB (AV.val (Value.int .u64 (IntKind.u64.wrap ((1:Int)*(2:Int)^min (V.getD i default).leaf.toNat IntKind.u64.bits)))=aw (gy (V.getD i default).leaf)) (jx 1 _ KC.1 aj),yO ((0:Int)≤(V.getD i default).leaf),yI (iV ((g.al.getD k default).used) (gy (V.getD i default).leaf)),yB (ao (wv ((g.al.getD k default).used&&&gy (V.getD i default).leaf) != (0:Int))=ao false) (by rw [cu];rfl)]<|zF 61<|zK<|aL<|ak<|zX (yH [(0,yV (ai ((↑i:Int)+1)))]) [yN ((↑i:Int)+1)] (aH (i+1) ⟨aj,by show (if _ then _ else _)=_;rw [if_neg aj,hr]⟩ aj (zW [.aa [12,11,3,0,1,2,13] [3]]))
  ·rw [if_pos cu] at hr
   have k1:=kW dD h0 hr aj
   refine zP 1 [yH [(3,yV (ai ↑k))]] [.aa [9,7,8,14,12,11,3,0,1,2,13] [8,3]] [yI mS]<|zS<|zq<|dp 36 ((↑k:Int)<0)<|a7<|zS<|zP 2 [{hs:=[(3,{k:=k}),(5,yV (AV.agg [ai ((g.al.getD k default).h),aw ((g.al.getD k default).r)])),(9,yV (ai 0))],T:=9},{}] [.aa [48,10,36,9,7,8,14,12,11,3,0,1,2,13] [8,3]] [yR (↑k:Int),yO (k*4<(af aI g.al).length),yu aI g.al k 1 2,yR 2,yI Kv]<|zF 48<|a7<|zP 1 [{hs:=[(3,{k:=k}),(5,yV (aw ((g.al.getD k default).used))),(9,yV (aw (gy (V.getD i default).leaf))),(10,yV (aw ((g.al.getD k default).used&&&gy (V.getD i default).leaf))),(11,yV (ao ((g.al.getD k default).used&&&gy (V.getD i default).leaf != 0)))],T:=10}] [.aa [61,48,10,36,9,7,8,14,12,11,3,0,1,2,13] [8,3]] [yR (↑k:Int),yO (k*4<(af aI g.al).length),yA aI g.al k 3,yB (AV.val (Value.int .u64 (IntKind.u64.wrap ((1:Int)*(2:Int)^min (V.getD i default).leaf.toNat IntKind.u64.bits)))=aw (gy (V.getD i default).leaf)) (jx 1 _ KC.1 aj),yO ((0:Int)≤(V.getD i default).leaf),yI (iV ((g.al.getD k default).used) (gy (V.getD i default).leaf)),yI (cI ((g.al.getD k default).used&&&gy (V.getD i default).leaf) 0)]<|dr 61 ((g.al.getD k default).used&&&gy (V.getD i default).leaf != 0) (by simp_all)<|zq<|zR<|bc<|aK<|dz<|bc<|aK (zV [yJ 37 (fv g w V) (by rw [k1])])
 ·have e:i=V.length:=aj
  subst e
  refine zE 0<|a_<|aP<|bo<|ak<|zS<|zP 1 [yH [(1,{k:=V.length})]] [.aa [67,14,12,11,3,0,1,2,13] [3]] [yI uq] (zD 67 ((↑V.length:Int)<g.bt) (fun q2=>?_) (fun q2=>?_))
  ·skip
   refine zq<|dt (zV [yJ 41 (fv g w V) (by unfold fv;rw [if_neg aj,if_pos aj])])
  ·skip
   refine a7<|zq<|zR (zV [yJ 0 (fv g w V) (by unfold fv;rw [if_neg aj,if_neg aj])])
theorem xd (g:gB) (w:UInt64) (V:List gA) (hm:g.al.length≤1000) (hv:V.length≤1000000):bK Tryz.prog 62 [.agg (bV g),.sl 4 (af aU V),aw w] (ai (fv g w V)):=by
 have uq:(af aU V).length=V.length*4:=aE (e:=4) (fun _=>rfl) ..
 have l0:(af aI g.al).length=g.al.length*4:=aE (e:=4) (fun _=>rfl) ..
 refine zO Tryz.func62 79<|zq<|zS<|zq<|zB 0 (zL (fun (i:Nat)=>(⟨[(3,AV.addr 3 0),(0,AV.agg (bV g)),(1,AV.sl 4 (af aU V)),(2,aw w),(7,ai i)],[(3,⟨1,false,true,List.map (aR 3) (bV g)⟩)]⟩:AS)) (fun i=>(i≤V.length∧ff (jR g w V) i=0)) (fun i=>(V.length-i)) (0) ?_ (zW [.aa [3,0,1,2,7] [3]]) ?_)
 ·exact ⟨aj,rfl⟩
 rintro i ⟨hi,h0⟩
 refine zS<|zP 1 [yH [(2,{k:=V.length})]] [.aa [13,3,0,1,2,7] [3]] [yI uq] (zD 13 ((↑i:Int)<(↑V.length:Int)) (fun q=>?_) (fun q=>?_))
 ·have dD:i<V.length:=aj
  have gT:=jm dD
  refine a7<|zS<|zB 1 (bf.k7 (fun (u:Unit)=>(⟨[(13,ao (decide ((↑i:Int)<(↑V.length:Int)))),(3,AV.addr 3 0),(0,AV.agg (bV g)),(1,AV.sl 4 (af aU V)),(2,aw w),(7,ai ↑i)],[(3,⟨1,false,true,List.map (aR 3) (bV g)⟩)]⟩:AS)) (fun u=>(¬He V i)) bD ?_ ?_)
  ·by_cases c6:0<i
   ·obtain ⟨k,hk⟩:∃k,k+1=i:=⟨i-1,aj⟩
    have xO:=jm (l:=V) (i:=k) aj
    have ek:i-1=k:=aj
    by_cases c7:Fa (V.getD i default).name (V.getD k default).name=true
    ·have k1:=kW dD h0 (Oo (g:=g) (w:=w) ⟨c6,by rw [ek];exact c7⟩) aj
     refine zP 1 [{hs:=[(5,{k:=i}),(7,yV (cZ (V.getD i default).name)),(10,yV (ai ↑k)),(11,{k:=k}),(13,yV (cZ (V.getD k default).name))],T:=14}] [.aa [31,13,3,0,1,2,7] [3]] (yM 3 (yT ((↑i:Int)>0))++ [yR (↑i:Int),yO (i*4<(af aU V).length)]++yM 2 (yT ((↑i:Int)>0))++ [yA aU V i 0]++yM 3 (yT ((↑i:Int)>0))++ [yB (ai (IntKind.i64.wrap ((↑i:Int)-1))=ai ↑k) (congrArg (fun n=>AV.val (.int .i64 n)) (by rw [IntKind.wrap_i64];omega)),yT ((↑i:Int)>0),yR (↑k:Int),yO (k*4<(af aU V).length)]++yM 2 (yT ((↑i:Int)>0))++ [yA aU V k 0]++yM 2 (yT ((↑i:Int)>0)))<|dr 31 (Op.bytesLess (ByteArray.mk (V.getD i default).name.toArray).toList (ByteArray.mk (V.getD k default).name.toArray).toList || (ByteArray.mk (V.getD i default).name.toArray).toList == (ByteArray.mk (V.getD k default).name.toArray).toList) (by assumption)<|zq<|dt<|bc<|aK<|dz<|bc<|aK (zV [yJ 7 (fv g w V) (by rw [k1])])
    ·have c9:Fa (V.getD i default).name (V.getD k default).name=false:=by simpa using c7
     refine zP 1 [{hs:=[(5,{k:=i}),(7,yV (cZ (V.getD i default).name)),(10,yV (ai ↑k)),(11,{k:=k}),(13,yV (cZ (V.getD k default).name))],T:=14}] [.aa [31,13,3,0,1,2,7] [3]] (yM 3 (yT ((↑i:Int)>0))++ [yR (↑i:Int),yO (i*4<(af aU V).length)]++yM 2 (yT ((↑i:Int)>0))++ [yA aU V i 0]++yM 3 (yT ((↑i:Int)>0))++ [yB (ai (IntKind.i64.wrap ((↑i:Int)-1))=ai ↑k) (congrArg (fun n=>AV.val (.int .i64 n)) (by rw [IntKind.wrap_i64];omega)),yT ((↑i:Int)>0),yR (↑k:Int),yO (k*4<(af aU V).length)]++yM 2 (yT ((↑i:Int)>0))++ [yA aU V k 0]++yM 2 (yT ((↑i:Int)>0)))<|bj 31 (Op.bytesLess (ByteArray.mk (V.getD i default).name.toArray).toList (ByteArray.mk (V.getD k default).name.toArray).toList || (ByteArray.mk (V.getD i default).name.toArray).toList == (ByteArray.mk (V.getD k default).name.toArray).toList) (by assumption)<|a7 (⟨(),(fun q=>by have:=q.2;rw [ek] at this;exact c7 this),(zW [.aa [13,3,0,1,2,7] [3]])⟩)
   ·skip
    refine zP 1 [{hs:=[(3,{g:=false}),(4,{g:=false}),(5,{g:=false}),(6,{g:=false}),(7,{g:=false}),(8,{g:=false}),(9,{g:=false}),(10,{g:=false}),(11,{g:=false}),(12,{g:=false}),(13,{g:=false}),(14,{g:=false}),(15,{b:=false})],T:=14}] [.aa [31,13,3,0,1,2,7] [3]] (yM 13 (yF ((↑i:Int)>0)))<|zF 31<|a7 (⟨(),(fun q=>c6 q.1),(zW [.aa [13,3,0,1,2,7] [3]])⟩)
  intro u hu
  have mS:=l_ g.al (V.getD i default).name aj
  rcases gG g.al (V.getD i default).name with hk|⟨k,hk,iF,Pr⟩
  ·have k1:=kW dD h0 (Lo (g:=g) (w:=w) hu aj) aj
   rw [hk] at mS
   refine zP 1 [{hs:=[(4,{k:=i}),(6,yV (cZ (V.getD i default).name)),(7,yV (ai (-1:Int)))],T:=7}] [.aa [8,13,3,0,1,2,7] [3]] [yR (↑i:Int),yO (i*4<(af aU V).length),yA aU V i 0,yI mS]<|zS<|zq<|ib 41 ((-1:Int)<0)<|zq<|dt<|bc<|aK<|dz<|bc<|aK (zV [yJ 11 (fv g w V) (by rw [k1])])
  have Rv:=mg iF
  rw [hk] at mS
  have Kv:=vo (g.al.getD k default).h (g.al.getD k default).r w (V.getD i default).leaf (V.getD i default).fU (V.getD i default).path
  by_cases cv:kp (g.al.getD k default).h (g.al.getD k default).r w (V.getD i default).leaf (V.getD i default).fU (V.getD i default).path=0
  case neg =>
   have k1:=kW dD h0 (Gm hu hk rfl cv) cv
   refine zP 1 [{hs:=[(4,{k:=i}),(6,yV (cZ (V.getD i default).name)),(7,yV (ai ↑k))],T:=7}] [.aa [8,13,3,0,1,2,7] [3]] [yR (↑i:Int),yO (i*4<(af aU V).length),yA aU V i 0,yI mS]<|zS<|zQ 1 [yH [(1,yV (ao false))]] [yR (ao false)]<|zF 41<|a7<|zS<|zP 2 [{hs:=[(3,{k:=k}),(5,yV (AV.agg [ai ((g.al.getD k default).h),aw ((g.al.getD k default).r)])),(9,{k:=i}),(11,yV (AV.agg [ai ((V.getD i default).leaf),AV.sl 1 (ah (V.getD i default).fU),AV.sl 1 (ah (V.getD i default).path)])),(12,yV (ai (kp (g.al.getD k default).h (g.al.getD k default).r w (V.getD i default).leaf (V.getD i default).fU (V.getD i default).path)))],T:=12},{}] [.aa [56,9,41,8,13,3,0,1,2,7] [3]] [yR (↑k:Int),yO (k*4<(af aI g.al).length),yu aI g.al k 1 2,yR 2,yR (↑i:Int),yO (i*4<(af aU V).length),yu aU V i 1 3,yR 3,yI Kv]<|dr 56 (kp (g.al.getD k default).h (g.al.getD k default).r w (V.getD i default).leaf (V.getD i default).fU (V.getD i default).path != (0:Int)) (by simp_all)<|zP 1 [{}] [.aa [6,56,9,41,8,13,3,0,1,2,7] [3]] []<|dt<|bc<|aK<|dz<|bc<|aK (zV [yJ (kp (g.al.getD k default).h (g.al.getD k default).r w (V.getD i default).leaf (V.getD i default).fU (V.getD i default).path) (fv g w V) (by rw [k1])])
  have KC:=tp cv
  have hr:=wW hu hk cv
  rw [cv] at Kv
  obtain ⟨z,hz,Q4⟩:∃z:Nat,(V.getD i default).leaf=z∧z<16:=⟨(V.getD i default).leaf.toNat,aj,aj⟩
  have OU:IntKind.u64.wrap (V.getD i default).leaf=(z:Int):=by rw [hz,IntKind.wrap_u64];omega
  have Ge:=Nw (g.al.getD k default).used z aj
  have TZ:gy (V.getD i default).leaf=(1:UInt64)<<<UInt64.ofNat z:=by unfold gy;rw [hz];rfl
  rw [TZ] at hr
  by_cases cu:(g.al.getD k default).used&&&((1:UInt64)<<<UInt64.ofNat z)=0
  ·rw [if_neg (fun q=>q cu)] at hr
   have cs:((((g.al.getD k default).used>>>UInt64.ofNat z)&&&1) == 1)=false:=beq_eq_false_iff_ne.2 fun q=>Ge.1 q cu
   refine zP 1 [{hs:=[(4,{k:=i}),(6,yV (cZ (V.getD i default).name)),(7,yV (ai ↑k))],T:=7}] [.aa [8,13,3,0,1,2,7] [3]] [yR (↑i:Int),yO (i*4<(af aU V).length),yA aU V i 0,yI mS]<|zS<|zq<|dp 41 ((↑k:Int)<0)<|a7<|zS<|zP 2 [{hs:=[(3,{k:=k}),(5,yV (AV.agg [ai ((g.al.getD k default).h),aw ((g.al.getD k default).r)])),(9,{k:=i}),(11,yV (AV.agg [ai ((V.getD i default).leaf),AV.sl 1 (ah (V.getD i default).fU),AV.sl 1 (ah (V.getD i default).path)])),(12,yV (ai 0))],T:=12},{}] [.aa [56,9,41,8,13,3,0,1,2,7] [3]] [yR (↑k:Int),yO (k*4<(af aI g.al).length),yu aI g.al k 1 2,yR 2,yR (↑i:Int),yO (i*4<(af aU V).length),yu aU V i 1 3,yR 3,yI Kv]<|zF 56<|a7<|zP 1 [{hs:=[(3,{k:=k}),(5,yV (aw ((g.al.getD k default).used))),(8,{k:=i}),(11,yV (ai ((V.getD i default).leaf))),(12,yV (AV.val (Value.int .u64 (↑z:Int)))),(13,yV (aw ((g.al.getD k default).used>>>UInt64.ofNat z))),(14,yV (aw ((g.al.getD k default).used>>>UInt64.ofNat z&&&(1:UInt64)))),(15,yV (ao ((g.al.getD k default).used>>>UInt64.ofNat z&&&(1:UInt64) == 1)))],T:=13}] [.aa [73,56,9,41,8,13,3,0,1,2,7] [3]] [yR (↑k:Int),yO (k*4<(af aI g.al).length),yA aI g.al k 3,yR (↑i:Int),yO (i*4<(af aU V).length),yA aU V i 1,yI (yd OU),yI (fg ((g.al.getD k default).used) ((↑z:Int)) aj aj),yO ((0:Int)≤(↑z:Int)),yI (iV ((g.al.getD k default).used>>>UInt64.ofNat z) 1),yI (fm ((g.al.getD k default).used>>>UInt64.ofNat z&&&(1:UInt64)) 1)]<|bj 73 ((g.al.getD k default).used>>>UInt64.ofNat z&&&(1:UInt64) == 1) (by assumption)<|zK<|aL<|ak<|zX (yH [(1,yV (ai ((↑i:Int)+1)))]) [yN ((↑i:Int)+1)] (aH (i+1) ⟨aj,by show (if _ then _ else _)=_;rw [if_neg aj,hr]⟩ aj (zW [.aa [3,0,1,2,7] [3]]))
  ·rw [if_pos cu] at hr
   have k1:=kW dD h0 hr aj
   have cs:((((g.al.getD k default).used>>>UInt64.ofNat z)&&&1) == 1)=true:=beq_iff_eq.2 (Ge.2 cu)
   refine zP 1 [{hs:=[(4,{k:=i}),(6,yV (cZ (V.getD i default).name)),(7,yV (ai ↑k))],T:=7}] [.aa [8,13,3,0,1,2,7] [3]] [yR (↑i:Int),yO (i*4<(af aU V).length),yA aU V i 0,yI mS]<|zS<|zq<|dp 41 ((↑k:Int)<0)<|a7<|zS<|zP 2 [{hs:=[(3,{k:=k}),(5,yV (AV.agg [ai ((g.al.getD k default).h),aw ((g.al.getD k default).r)])),(9,{k:=i}),(11,yV (AV.agg [ai ((V.getD i default).leaf),AV.sl 1 (ah (V.getD i default).fU),AV.sl 1 (ah (V.getD i default).path)])),(12,yV (ai 0))],T:=12},{}] [.aa [56,9,41,8,13,3,0,1,2,7] [3]] [yR (↑k:Int),yO (k*4<(af aI g.al).length),yu aI g.al k 1 2,yR 2,yR (↑i:Int),yO (i*4<(af aU V).length),yu aU V i 1 3,yR 3,yI Kv]<|zF 56<|a7<|zP 1 [{hs:=[(3,{k:=k}),(5,yV (aw ((g.al.getD k default).used))),(8,{k:=i}),(11,yV (ai ((V.getD i default).leaf))),(12,yV (AV.val (Value.int .u64 (↑z:Int)))),(13,yV (aw ((g.al.getD k default).used>>>UInt64.ofNat z))),(14,yV (aw ((g.al.getD k default).used>>>UInt64.ofNat z&&&(1:UInt64)))),(15,yV (ao ((g.al.getD k default).used>>>UInt64.ofNat z&&&(1:UInt64) == 1)))],T:=13}] [.aa [73,56,9,41,8,13,3,0,1,2,7] [3]] [yR (↑k:Int),yO (k*4<(af aI g.al).length),yA aI g.al k 3,yR (↑i:Int),yO (i*4<(af aU V).length),yA aU V i 1,yI (yd OU),yI (fg ((g.al.getD k default).used) ((↑z:Int)) aj aj),yO ((0:Int)≤(↑z:Int)),yI (iV ((g.al.getD k default).used>>>UInt64.ofNat z) 1),yI (fm ((g.al.getD k default).used>>>UInt64.ofNat z&&&(1:UInt64)) 1)]<|dr 73 ((g.al.getD k default).used>>>UInt64.ofNat z&&&(1:UInt64) == 1) (by assumption)<|zq<|zR<|bc<|aK<|dz<|bc<|aK (zV [yJ 37 (fv g w V) (by rw [k1])])
 ·have e:i=V.length:=aj
  subst e
  refine zE 0<|a_<|aP<|bo<|ak<|zS<|zP 1 [yH [(1,{k:=V.length})]] [.aa [78,13,3,0,1,2,7] [3]] [yI uq] (zD 78 ((↑V.length:Int)<g.bt) (fun q2=>?_) (fun q2=>?_))
  ·skip
   refine zq<|dt (zV [yJ 41 (fv g w V) (by unfold fv;rw [if_neg aj,if_pos aj])])
  ·skip
   refine a7<|zq<|zR (zV [yJ 0 (fv g w V) (by unfold fv;rw [if_neg aj,if_neg aj])])
end Go.Proofs.YtjgbhhnghedgdaaGreatDoor
