import Derived.Test.YtjgbhhnghedgdaaGreatDoorZbGrB3
set_option linter.all false
namespace Go.Proofs.YtjgbhhnghedgdaaGreatDoor
open Go.RowKit
set_option maxRecDepth 100000
set_option maxHeartbeats 4000000
theorem tT (leaf:Int) (m:UInt64) (s:List UInt64):bL Tryz.prog 114 [ai leaf,aw m,.sl 1 (ah s)] (.bt [aw (oy leaf m s),ai (lz s)]):=by
 by_cases hs:s.length=18
 case neg =>
  have e1:oy leaf m s=0:=if_neg hs
  have e2:lz s=4:=if_neg hs
  refine zO Tryz.func114 37<|zq<|zS<|zP 1 [yH [(1,{k:=s.length})]] [.aa [13,7,6,0,1,2] []] [yB ((ah s).length=s.length) (aC _)]<|dB 13 ((↑s.length:Int) != (18:Int)) (by simp;omega)<|zq<|dn (zV [yK 0 (wv (oy leaf m s)) (by rw [e1];rfl),yJ 4 (lz s) (by rw [e2])])
 have e1:oy leaf m s=combine leaf (cO leaf m s 18):=if_pos hs
 have e2:lz s=0:=if_pos hs
 have hd:=nO m
 refine zO Tryz.func114 37<|zq<|zS<|zP 1 [yH [(1,{k:=s.length})]] [.aa [13,7,6,0,1,2] []] [yB ((ah s).length=s.length) (aC _)]<|bn 13 ((↑s.length:Int) != (18:Int)) (by simp_all)<|a_<|zQ 2 [yH [(1,yV (AV.own 1 (ax (ct m))))],{}] [yI (mQ m),yB (ll (ax (ct m))) (vU _)]<|zS<|zq<|zB 0 (zL (fun (k:Nat)=>(⟨[(8,AV.ref 15),(13,ao ((↑s.length:Int) != (18:Int))),(7,ai 0),(6,cQ),(0,ai leaf),(1,aw m),(2,AV.sl 1 (ah s)),(10,ai k),(9,AV.ref 31)],[(15,⟨1,true,false,ax (ct m)⟩),(31,⟨1,true,false,ah (cO leaf m s k)⟩)]⟩:AS)) (fun k=>(k≤18)) (fun k=>(18-k)) (0) ?_ (zW [.nil 9 31 1,.aa [8,13,7,6,0,1,2,10,9] [15,31]]) ?_)
 ·omega
 intro k hk
 have hl:=Ab leaf m s k
 refine zS<|zq (zD 17 ((↑k:Int)<18) (fun h=>?_) (fun h=>?_))
 ·skip
  refine a_<|zS<|zB 1<|zX ({hs:=[(5,{k:=k}),(6,yV (ai ((ct m).getD k (0:Int)))),(9,{k:=k}),(10,yV (aw (s.getD k 0))),(11,yV (aw (run leaf (↑k:Int) ((ct m).getD k (0:Int)) (15:Int) (s.getD k 0)))),(12,yV (AV.arr (ah [run leaf (↑k:Int) ((ct m).getD k (0:Int)) (15:Int) (s.getD k 0)]))),(13,yV (AV.arr (ah (cO leaf m s k++ [run leaf (↑k:Int) ((ct m).getD k (0:Int)) (15:Int) (s.getD k 0)]))))],T:=13}) [yR (↑k:Int),yO (k<18),yB ((ax (ct m))[k]?=some (ai ((ct m).getD k (0:Int)))) (lZ aj),yR (↑k:Int),yB (k<(ah s).length) (by simp only [aC];omega),yB ((ah s)[k]?=some (aw (s.getD k 0))) (eE aj),yI (oZ leaf ((↑k:Int)) ((ct m).getD k (0:Int)) ((15:Int)) (s.getD k 0)),yR [aw (run leaf (↑k:Int) ((ct m).getD k (0:Int)) (15:Int) (s.getD k 0))],yB (ah (cO leaf m s k)++ah [run leaf (↑k:Int) ((ct m).getD k (0:Int)) (15:Int) (s.getD k 0)]=ah (cO leaf m s k++ [run leaf (↑k:Int) ((ct m).getD k (0:Int)) (15:Int) (s.getD k 0)])) (jf _ _),yB (((ah (cO leaf m s k)).length+1)*8≤140737488355328) (by simp only [aC];omega)]<|aL<|aq<|zX (yH [(1,yV (ai ((↑k:Int)+1)))]) [yN ((↑k:Int)+1)] (aK (k+1) aj aj (eQ [.vp 33 31,.aa [8,13,7,6,0,1,2,10,9] [15,31]] [] [31] [yB (ah (cO leaf m s k++ [run leaf (↑k:Int) ((ct m).getD k (0:Int)) (15:Int) (s.getD k 0)])=ah (cO leaf m s (k+1))) (congrArg ah (Fa leaf m s k).symm)]))
 ·have e:k=18:=aj
  subst e
  refine zE 0<|ba<|aS<|br<|aq<|zP 1 [yH [(2,yV (aw (combine leaf (cO leaf m s 18))))]] [.aa [7,6,17,8,13,0,1,2,10,9] [15,31]] [yI (rV leaf (cO leaf m s 18) (by assumption))]<|zR (zV [yK (wv (combine leaf (cO leaf m s 18))) (wv (oy leaf m s)) (by rw [e1]),yJ 0 (lz s) (by rw [e2])])
theorem vy (h:Int) (r m:UInt64) (leaf:Int) (C P:List UInt64):bL Tryz.prog 69 [.agg [ai h,aw r],aw m,.agg [ai leaf,.sl 1 (ah C),.sl 1 (ah P)]] (ai (ky h r m leaf C P)):=by
 by_cases e_:i7 h leaf
 ·have e1:ky h r m leaf C P=9:=if_pos e_
  rw [e1]
  unfold i7 at e_
  by_cases hb:bB h
  ·refine zO Tryz.func69 84<|zq<|zS<|zP 1 [yH [(2,yV (ao (!decide (bB h))))]] [.aa [27,6,5,3,0,1,2] [5,3]] ([yI (b_ h)]++yM 4 (yB ((!!decide (bB h))=true) (by simp_all))++yM 8 (yR true))<|zT 27<|zq<|dn (bR)
  have rj:0≤h∧h≤4:=by unfold bB at hb;omega
  obtain ⟨k,rfl⟩:=Int.eq_ofNat_of_zero_le rj.1
  rw [Int.toNat_natCast] at e_
  have hk:k≤4:=aj
  by_cases dj:leaf<0
  ·refine zO Tryz.func69 84<|zq<|zS<|zP 1 [yH ([(2,yV (ao (!decide (bB (↑k:Int))))),(8,{b:=false})]++yg [5,6,7])] [.aa [27,6,5,3,0,1,2] [5,3]] ([yI (b_ ((↑k:Int)))]++yM 4 (yB ((!!decide (bB (↑k:Int)))=false) (by simp_all))++yM 8 (yT (leaf<0)))<|zT 27<|zq<|dn (bR)
  have uI:((2^k:Nat):Int)≤leaf:=by rcases e_ with h|h|h<;>first|exact absurd h hb|exact absurd h dj|exact h
  have hp:2^k≤16:=Nat.pow_le_pow_right (by decide) (by omega:k≤4)
  have Cn:IntKind.i64.wrap (1*2^min (wv (u64 (k:Int))).toNat IntKind.i64.bits)=((2^k:Nat):Int):=by
   rcases (aj:k=0∨k=1∨k=2∨k=3∨k=4) with rfl|rfl|rfl|rfl|rfl<;>decide +kernel
  have JN:(0:Int)≤wv (u64 (k:Int)):=Int.natCast_nonneg _
  generalize 2^k=p2 at *
  refine zO Tryz.func69 84<|zq<|zS<|zP 1 [yH ([(2,yV (ao (!decide (bB (↑k:Int))))),(8,{b:=false}),(14,{av:=some (aw (u64 (↑k:Int))),g:=false}),(15,{av:=some (ai ↑p2),g:=false}),(17,{b:=false})]++yg [5,6,7,10,11,12,13,16])] [.aa [27,6,5,3,0,1,2] [5,3]] ([yI (b_ ((↑k:Int)))]++yM 4 (yB ((!!decide (bB (↑k:Int)))=false) (by simp_all))++yM 5 (yF (leaf<0))++ [yI (aY ((↑k:Int))),yF (leaf<0),yB (ai (IntKind.i64.wrap ((1:Int)*(2:Int)^min (wv (u64 (↑k:Int))).toNat IntKind.i64.bits))=ai ↑p2) (congrArg (fun n=>AV.val (.int .i64 n)) Cn),yI JN]++yM 2 (yF (leaf<0)))<|gU 27 (leaf≥(↑p2:Int))<|zq<|dn (bR)
 have hv:ky h r m leaf C P=if C.length≠18∨(P.length:Int)≠h then 4 else if dA leaf.toNat P (combine leaf (cO leaf m C 18)) h.toNat=r then 0 else 15:=if_neg e_
 unfold i7 bB at e_
 have rj:0≤h∧h≤4∧0≤leaf:=aj
 obtain ⟨k,rfl⟩:=Int.eq_ofNat_of_zero_le rj.1
 obtain ⟨i,rfl⟩:=Int.eq_ofNat_of_zero_le rj.2.2
 rw [Int.toNat_natCast] at e_
 rw [Int.toNat_natCast,Int.toNat_natCast] at hv
 have hk:k≤4:=aj
 have hb:¬bB (k:Int):=by unfold bB;omega
 have ho:¬((i:Int)<0∨((2^k:Nat):Int)≤i):=aj
 have hp:2^k≤16:=Nat.pow_le_pow_right (by decide) hk
 have Cn:IntKind.i64.wrap (1*2^min (wv (u64 (k:Int))).toNat IntKind.i64.bits)=((2^k:Nat):Int):=by
  rcases (aj:k=0∨k=1∨k=2∨k=3∨k=4) with rfl|rfl|rfl|rfl|rfl<;>decide +kernel
 have JN:(0:Int)≤wv (u64 (k:Int)):=Int.natCast_nonneg _
 rw [hv]
 by_cases hC:C.length=18
 case neg =>
  rw [if_pos (.inl hC)]
  refine zO Tryz.func69 84<|zq<|zS<|zP 1 [yH ([(2,yV (ao (!decide (bB (↑k:Int))))),(8,{b:=false}),(14,{av:=some (aw (u64 (↑k:Int))),g:=false}),(15,{av:=some (ai (↑((2:Nat)^k):Int)),g:=false}),(17,{b:=false})]++yg [5,6,7,10,11,12,13,16])] [.aa [27,6,5,3,0,1,2] [5,3]] ([yI (b_ ((↑k:Int)))]++yM 4 (yB ((!!decide (bB (↑k:Int)))=false) (by simp_all))++yM 5 (yR false)++ [yI (aY ((↑k:Int))),yR false,yB (ai (IntKind.i64.wrap ((1:Int)*(2:Int)^min (wv (u64 (↑k:Int))).toNat IntKind.i64.bits))=ai (↑((2:Nat)^k):Int)) (congrArg (fun n=>AV.val (.int .i64 n)) Cn),yI JN,yR false,yR false])<|dt 27 ((↑i:Int)≥(↑((2:Nat)^k):Int))<|a_<|zS<|zP 1 [yH [(2,{k:=C.length})]] [.aa [39,27,6,5,3,0,1,2] [5,3]] ([yB ((ah C).length=C.length) (aC _)]++yM 7 (yB (((↑C.length:Int) != (18:Int))=true) (by simp;omega)))<|zT 39<|zq<|dn (bR)
 by_cases hP:P.length=k
 case neg =>
  rw [if_pos (.inr aj)]
  refine zO Tryz.func69 84<|zq<|zS<|zP 1 [yH ([(2,yV (ao (!decide (bB (↑k:Int))))),(8,{b:=false}),(14,{av:=some (aw (u64 (↑k:Int))),g:=false}),(15,{av:=some (ai (↑((2:Nat)^k):Int)),g:=false}),(17,{b:=false})]++yg [5,6,7,10,11,12,13,16])] [.aa [27,6,5,3,0,1,2] [5,3]] ([yI (b_ ((↑k:Int)))]++yM 4 (yB ((!!decide (bB (↑k:Int)))=false) (by simp_all))++yM 5 (yR false)++ [yI (aY ((↑k:Int))),yR false,yB (ai (IntKind.i64.wrap ((1:Int)*(2:Int)^min (wv (u64 (↑k:Int))).toNat IntKind.i64.bits))=ai (↑((2:Nat)^k):Int)) (congrArg (fun n=>AV.val (.int .i64 n)) Cn),yI JN,yR false,yR false])<|dt 27 ((↑i:Int)≥(↑((2:Nat)^k):Int))<|a_<|zS<|zP 1 [yH ([(2,{k:=C.length}),(7,{k:=P.length,g:=false}),(11,{b:=false})]++yg [5,6,8,9,10])] [.aa [39,27,6,5,3,0,1,2] [5,3]] ([yB ((ah C).length=C.length) (aC _)]++yM 3 (yB (((↑C.length:Int) != (18:Int))=false) (by simp_all))++ [yB ((ah P).length=P.length) (aC _)]++yM 4 (yB (((↑C.length:Int) != (18:Int))=false) (by simp_all)))<|dB 39 ((↑P.length:Int) != (↑k:Int)) (by simp;omega)<|zq<|dn (bR)
 rw [if_neg aj]
 have hr:oy i m C=combine i (cO i m C 18):=if_pos hC
 have he:lz C=0:=if_pos hC
 refine zO Tryz.func69 84<|zq<|zS<|zP 1 [yH ([(2,yV (ao (!decide (bB (↑k:Int))))),(8,{b:=false}),(14,{av:=some (aw (u64 (↑k:Int))),g:=false}),(15,{av:=some (ai (↑((2:Nat)^k):Int)),g:=false}),(17,{b:=false})]++yg [5,6,7,10,11,12,13,16])] [.aa [27,6,5,3,0,1,2] [5,3]] ([yI (b_ ((↑k:Int)))]++yM 4 (yB ((!!decide (bB (↑k:Int)))=false) (by simp_all))++yM 5 (yR false)++ [yI (aY ((↑k:Int))),yR false,yB (ai (IntKind.i64.wrap ((1:Int)*(2:Int)^min (wv (u64 (↑k:Int))).toNat IntKind.i64.bits))=ai (↑((2:Nat)^k):Int)) (congrArg (fun n=>AV.val (.int .i64 n)) Cn),yI JN,yR false,yR false])<|dt 27 ((↑i:Int)≥(↑((2:Nat)^k):Int))<|a_<|zS<|zP 1 [yH ([(2,{k:=C.length}),(7,{k:=P.length,g:=false}),(11,{b:=false})]++yg [5,6,8,9,10])] [.aa [39,27,6,5,3,0,1,2] [5,3]] ([yB ((ah C).length=C.length) (aC _)]++yM 3 (yB (((↑C.length:Int) != (18:Int))=false) (by simp_all))++ [yB ((ah P).length=P.length) (aC _)]++yM 4 (yB (((↑C.length:Int) != (18:Int))=false) (by simp_all)))<|bn 39 ((↑P.length:Int) != (↑k:Int)) (by simp_all)<|a_<|zP 1 [yH [(5,yV (AV.bt [aw (oy (↑i:Int) m C),ai (lz C)]))]] [.aa [7,39,27,6,5,3,0,1,2] [5,3]] [yI (tT ((↑i:Int)) m C)]<|zS<|zq<|zB 0 (zL (fun (j:Nat)=>(⟨[(39,ao ((↑P.length:Int) != (↑k:Int))),(27,ao (decide ((↑i:Int)≥(↑((2:Nat)^k):Int)))),(6,ai 0),(5,AV.addr 5 0),(3,AV.addr 3 0),(0,AV.agg [ai ↑k,aw r]),(1,aw m),(2,AV.agg [ai ↑i,AV.sl 1 (ah C),AV.sl 1 (ah P)]),(9,ai j),(7,aw (dA i P (combine i (cO i m C 18)) j))],[(5,⟨1,false,true,[ai ↑i,AV.sl 1 (ah C),AV.sl 1 (ah P)]⟩),(3,⟨1,false,true,[ai ↑k,aw r]⟩)]⟩:AS)) (fun j=>(j≤k)) (fun j=>(k-j)) (0) ?_ (eQ [.aa [39,27,6,5,3,0,1,2,9,7] [5,3]] [7] [] [yB (aw (oy (↑i:Int) m C)=aw (dA i P (combine (↑i:Int) (cO (↑i:Int) m C 18)) 0)) (congrArg aw hr)]) ?_)
 ·omega
 intro j hj
 refine zS<|bf.jX 1 [{}] [.aa [52,39,27,6,5,3,0,1,2,9,7] [5,3]] bk (s':=AS.mk [(52,ao (decide ((↑j:Int)<(↑k:Int)))),(39,ao ((↑P.length:Int) != (↑k:Int))),(27,ao (decide ((↑i:Int)≥(↑((2:Nat)^k):Int)))),(6,ai 0),(5,AV.addr 5 0),(3,AV.addr 3 0),(0,AV.agg [ai ↑k,aw r]),(1,aw m),(2,AV.agg [ai ↑i,AV.sl 1 (ah C),AV.sl 1 (ah P)]),(9,ai ↑j),(7,aw (dA i P (combine (↑i:Int) (cO (↑i:Int) m C 18)) j))] [(5,Row.mk 1 false true [ai ↑i,AV.sl 1 (ah C),AV.sl 1 (ah P)]),(3,Row.mk 1 false true [ai ↑k,aw r])]) (C:=[]) bk trivial (zD 52 ((↑j:Int)<(↑k:Int)) (fun g=>?_) (fun g=>?_))
 ·have hs:=zp i j aj
  have hle:i/2^j≤i:=Nat.div_le_self ..
  have hq:i/2^j<16:=aj
  have ha:=EM _ hq
  have MJ:(0:Int)≤wv (u64 (j:Int)):=Int.natCast_nonneg _
  have Rz:IntKind.i64.wrap ((j:Int)+1)=((j+1:Nat):Int):=by rw [fc aj aj];omega
  have hc:dA i P (combine i (cO i m C 18)) (j+1)=if i/2^j%2=0 then gR ((j+1:Nat):Int) (dA i P (combine i (cO i m C 18)) j) (P.getD j 0) else gR ((j+1:Nat):Int) (P.getD j 0) (dA i P (combine i (cO i m C 18)) j):=rfl
  generalize i/2^j=q at *
  generalize hx:dA i P (combine i (cO i m C 18)) j=x at *
  by_cases h2:q%2=0
  ·rw [if_pos h2] at hc
   generalize q%2=q2 at *
   refine a_<|zS<|zB 1<|zP 1 [yH [(3,yV (aw (u64 (↑j:Int)))),(4,yV (ai ↑q)),(5,yV (ai ↑q2))]] [.aa [61,52,39,27,6,5,3,0,1,2,9,7] [5,3]] [yI (aY ((↑j:Int))),yB (ai ((↑i:Int).fdiv ((2:Int)^min (wv (u64 (↑j:Int))).toNat IntKind.i64.bits))=ai ↑q) (congrArg (fun n=>AV.val (.int .i64 n)) hs),yI MJ,yB (ai (IntKind.i64.wrap (↑(BitVec.ofInt IntKind.i64.bits (↑q:Int)&&&BitVec.ofInt IntKind.i64.bits (1:Int)).toNat:Int))=ai ↑q2) (congrArg (fun n=>AV.val (.int .i64 n)) ha)]<|dB 61 ((↑q2:Int) == (0:Int)) fg<|zX (yH [(1,yV (ai (↑(j+1):Int))),(6,{k:=j}),(7,yV (aw (P.getD j 0))),(8,yV (aw (gR (↑(j+1):Int) x (P.getD j 0))))]) [yB (ai (IntKind.i64.wrap ((↑j:Int)+1))=ai (↑(j+1):Int)) (dK aj aj),yR (↑j:Int),yB (j<(ah P).length) (by simp only [aC];omega),yB ((ah P)[j]?=some (aw (P.getD j 0))) (eE aj),yI (ly (↑(j+1):Int) x (P.getD j 0))]<|aL<|aq<|bf.NY {hs:=[(1,{av:=some (ai ((↑j:Int)+1))})]} (s':=AS.mk [(9,ai ((↑j:Int)+1)),(54,ai ((↑j:Int)+1)),(53,ai ↑j),(7,aw (gR (↑(j+1):Int) x (P.getD j 0))),(70,aw (gR (↑(j+1):Int) x (P.getD j 0))),(69,aw (P.getD j 0)),(68,AV.ptr (ah P) j),(67,ai ↑j),(66,AV.sl 1 (ah P)),(65,AV.addr 5 2),(64,aw x),(63,ai (↑(j+1):Int)),(62,ai ↑j),(61,ao ((↑q2:Int) == (0:Int))),(52,ao (decide ((↑j:Int)<(↑k:Int)))),(39,ao ((↑P.length:Int) != (↑k:Int))),(27,ao (decide ((↑i:Int)≥(↑((2:Nat)^k):Int)))),(6,ai 0),(5,AV.addr 5 0),(3,AV.addr 3 0),(0,AV.agg [ai ↑k,aw r]),(1,aw m),(2,AV.agg [ai ↑i,AV.sl 1 (ah C),AV.sl 1 (ah P)])] [(5,Row.mk 1 false true [ai ↑i,AV.sl 1 (ah C),AV.sl 1 (ah P)]),(3,Row.mk 1 false true [ai ↑k,aw r])]) (C:=[ai (IntKind.i64.wrap ((↑j:Int)+1))=ai ((↑j:Int)+1)]) bk ⟨(dK aj aj),trivial⟩ (aK (j+1) aj aj (eQ [.aa [39,27,6,5,3,0,1,2,9,7] [5,3]] [7] [] [yB (aw (gR (↑(j+1):Int) x (P.getD j 0))=aw (dA i P (combine (↑i:Int) (cO (↑i:Int) m C 18)) (j+1))) (by rw [hc])]))
  ·rw [if_neg h2] at hc
   generalize q%2=q2 at *
   refine a_<|zS<|zB 1<|zP 1 [yH [(3,yV (aw (u64 (↑j:Int)))),(4,yV (ai ↑q)),(5,yV (ai ↑q2))]] [.aa [61,52,39,27,6,5,3,0,1,2,9,7] [5,3]] [yI (aY ((↑j:Int))),yB (ai ((↑i:Int).fdiv ((2:Int)^min (wv (u64 (↑j:Int))).toNat IntKind.i64.bits))=ai ↑q) (congrArg (fun n=>AV.val (.int .i64 n)) hs),yI MJ,yB (ai (IntKind.i64.wrap (↑(BitVec.ofInt IntKind.i64.bits (↑q:Int)&&&BitVec.ofInt IntKind.i64.bits (1:Int)).toNat:Int))=ai ↑q2) (congrArg (fun n=>AV.val (.int .i64 n)) ha)]<|bn 61 ((↑q2:Int) == (0:Int)) bE<|zX (yH [(1,yV (ai (↑(j+1):Int))),(5,{k:=j}),(6,yV (aw (P.getD j 0))),(8,yV (aw (gR (↑(j+1):Int) (P.getD j 0) x)))]) [yB (ai (IntKind.i64.wrap ((↑j:Int)+1))=ai (↑(j+1):Int)) (dK aj aj),yR (↑j:Int),yB (j<(ah P).length) (by simp only [aC];omega),yB ((ah P)[j]?=some (aw (P.getD j 0))) (eE aj),yI (ly (↑(j+1):Int) (P.getD j 0) x)]<|aL<|aq<|zX (yH [(1,yV (ai ((↑j:Int)+1)))]) [yN ((↑j:Int)+1)] (aK (j+1) aj aj (eQ [.aa [39,27,6,5,3,0,1,2,9,7] [5,3]] [7] [] [yB (aw (gR (↑(j+1):Int) (P.getD j 0) x)=aw (dA i P (combine (↑i:Int) (cO (↑i:Int) m C 18)) (j+1))) (by rw [hc])]))
 ·have e:j=k:=aj
  subst e
  by_cases kf:dA i P (combine i (cO i m C 18)) j=r
  ·rw [if_pos kf]
   refine zE 0<|ba<|aS<|br<|aq<|zS<|zP 1 [yH [(3,yV (ao (dA i P (combine (↑i:Int) (cO (↑i:Int) m C 18)) j != r)))]] [.aa [83,52,39,27,6,5,3,0,1,2,9,7] [5,3]] [yI (cN (dA i P (combine (↑i:Int) (cO (↑i:Int) m C 18)) j) r)]<|bn 83 (dA i P (combine (↑i:Int) (cO (↑i:Int) m C 18)) j != r) (by simp_all)<|a_<|zq<|zR (bR)
  ·rw [if_neg kf]
   refine zE 0<|ba<|aS<|br<|aq<|zS<|zP 1 [yH [(3,yV (ao (dA i P (combine (↑i:Int) (cO (↑i:Int) m C 18)) j != r)))]] [.aa [83,52,39,27,6,5,3,0,1,2,9,7] [5,3]] [yI (cN (dA i P (combine (↑i:Int) (cO (↑i:Int) m C 18)) j) r)]<|dB 83 (dA i P (combine (↑i:Int) (cO (↑i:Int) m C 18)) j != r) (by simp_all)<|zq<|dn (bR)
theorem CA (m:Mem) (h:List UInt8):bL Tryz.prog 111 [.agg (aF m),.ptr [cF h] 0] (ao (m.name == h)):=by
 refine zO Tryz.func111 8<|zP 2 [{},yH [(3,yV (ao (m.name == h)))]] [.aa [3,2,0,1] [2]] [yB (ao ((ByteArray.mk m.name.toArray).toList == (ByteArray.mk h.toArray).toList)=ao (m.name == h)) (fN (m.name) (h))]<|zR (bR)
theorem CD (l:List Mem) (h:List UInt8) (y1:l.length≤1000000):bL Tryz.prog 110 [.sl 4 (ae aF l),.lK 111 [.ptr [cF h] 0]] (ai (dJ l h)):=by
 have hl:(ae aF l).length=l.length*4:=aG (e:=4) (fun _=>rfl) ..
 refine zO Tryz.func110 19<|zq<|zS<|zQ 1 [yH [(1,{k:=l.length})]] [yI hl]<|zB 0 (zL (fun (i:Nat)=>(⟨[(7,ai (↑l.length:Int)),(0,AV.sl 4 (ae aF l)),(1,AV.lK 111 [AV.ptr [cF h] 0]),(8,ai i)],[]⟩:AS)) (fun i=>(i≤l.length∧ ∀j,j<i->(l.getD j default).name≠h)) (fun i=>(l.length-i)) (0) ?_ (zW [.aa [7,0,1,8] []]) ?_)
 ·exact ⟨aj,aj⟩
 rintro i ⟨hi,gh⟩
 refine zq<|zS (zD 9 ((↑i:Int)<(↑l.length:Int)) (fun g=>?_) (fun g=>?_))
 ·have dM:i<l.length:=aj
  have hc:=CA (l.getD i default) h
  by_cases e:(l.getD i default).name=h
  ·have hf:=xF dM gh e
   refine a_<|zS<|zB 1<|zP 2 [{},yH [(3,{k:=i}),(4,yV (AV.agg (aF (l.getD i default)))),(5,yV (ao ((l.getD i default).name == h)))]] [.aa [16,5,9,7,0,1,8] []] [yR (↑i:Int),yO (i*4<(ae aF l).length),yB (List.take 4 (List.drop (i*4) (ae aF l))=(aF (l.getD i default))) (dr (f:=aF) (e:=4) (k:=i) (j:=0) (fun _=>rfl) aj (by decide) rfl),yR 4,yI hc]<|dB 16 ((l.getD i default).name == h) (by simp_all)<|zq<|zR<|a6<|aI<|de<|a6<|aI (zV [yJ (↑i:Int) (dJ l h) (by rw [hf])])
  ·skip
   refine a_<|zS<|zB 1<|zP 2 [{},yH [(3,{k:=i}),(4,yV (AV.agg (aF (l.getD i default)))),(5,yV (ao ((l.getD i default).name == h)))]] [.aa [16,5,9,7,0,1,8] []] [yR (↑i:Int),yO (i*4<(ae aF l).length),yB (List.take 4 (List.drop (i*4) (ae aF l))=(aF (l.getD i default))) (dr (f:=aF) (e:=4) (k:=i) (j:=0) (fun _=>rfl) aj (by decide) rfl),yR 4,yI hc]<|bn 16 ((l.getD i default).name == h) (by simp_all)<|zK<|aL<|aq<|zX (yH [(0,yV (ai ((↑i:Int)+1)))]) [yN ((↑i:Int)+1)] (aK (i+1) ⟨aj,fun j hj=>by by_cases e2:j=i;(subst e2;exact e);exact gh j aj⟩ aj (zW [.aa [7,0,1,8] []]))
 ·have hf:=xD (l:=l) (h:=h) (fun j hj=>gh j aj)
  refine zE 0<|ba<|aS<|br<|aq<|zq<|zR (zV [yJ (-1:Int) (dJ l h) (by rw [hf])])
theorem nJ (g:gX) (h:List UInt8) (y1:g.al.length≤1000000):bL Tryz.prog 61 [.agg (bQ g),cF h] (ai (dJ g.al h)):=by
 refine zO Tryz.func61 9<|zP 2 [{},yH [(3,yV (ai (dJ g.al h)))]] [.aa [4,3,2,0,1] [2]] [yI (CD g.al h y1)]<|zR (bR)
theorem ml (l:List Mem) (h:List UInt8) (y1:l.length≤1000000):bL Tryz.prog 64 [.sl 4 (ae aF l),cF h] (ai (dJ l h)):=by
 have hl:(ae aF l).length=l.length*4:=aG (e:=4) (fun _=>rfl) ..
 refine zO Tryz.func64 20<|zq<|zS<|zq<|zB 0 (zL (fun (i:Nat)=>(⟨[(0,AV.sl 4 (ae aF l)),(1,cF h),(5,ai i)],[]⟩:AS)) (fun i=>(i≤l.length∧ ∀j,j<i->(l.getD j default).name≠h)) (fun i=>(l.length-i)) (0) ?_ (zW [.aa [0,1,5] []]) ?_)
 ·exact ⟨aj,aj⟩
 rintro i ⟨hi,gh⟩
 refine zS<|zP 1 [yH [(2,{k:=l.length})]] [.aa [9,0,1,5] []] [yI hl] (zD 9 ((↑i:Int)<(↑l.length:Int)) (fun g=>?_) (fun g=>?_))
 ·have dM:i<l.length:=aj
  by_cases e:(l.getD i default).name=h
  ·have hf:=xF dM gh e
   refine a_<|zS<|zB 1<|zP 1 [yH [(2,{k:=i}),(4,yV (cF (l.getD i default).name)),(6,yV (ao ((l.getD i default).name == h)))]] [.aa [18,9,0,1,5] []] [yR (↑i:Int),yO (i*4<(ae aF l).length),yB ((ae aF l)[i*4]?=some (cF (l.getD i default).name)) (bc (f:=aF) (e:=4) (k:=i) (j:=0) (fun _=>rfl) aj rfl),yB (ao ((ByteArray.mk (l.getD i default).name.toArray).toList == (ByteArray.mk h.toArray).toList)=ao ((l.getD i default).name == h)) (fN ((l.getD i default).name) (h))]<|dB 18 ((l.getD i default).name == h) (by simp_all)<|zq<|zR<|a6<|aI<|de<|a6<|aI (zV [yJ (↑i:Int) (dJ l h) (by rw [hf])])
  ·skip
   refine a_<|zS<|zB 1<|zP 1 [yH [(2,{k:=i}),(4,yV (cF (l.getD i default).name)),(6,yV (ao ((l.getD i default).name == h)))]] [.aa [18,9,0,1,5] []] [yR (↑i:Int),yO (i*4<(ae aF l).length),yB ((ae aF l)[i*4]?=some (cF (l.getD i default).name)) (bc (f:=aF) (e:=4) (k:=i) (j:=0) (fun _=>rfl) aj rfl),yB (ao ((ByteArray.mk (l.getD i default).name.toArray).toList == (ByteArray.mk h.toArray).toList)=ao ((l.getD i default).name == h)) (fN ((l.getD i default).name) (h))]<|bn 18 ((l.getD i default).name == h) (by simp_all)<|zK<|aL<|aq<|zX (yH [(1,yV (ai ((↑i:Int)+1)))]) [yN ((↑i:Int)+1)] (aK (i+1) ⟨aj,fun j hj=>by by_cases e2:j=i;(subst e2;exact e);exact gh j aj⟩ aj (zW [.aa [0,1,5] []]))
 ·have hf:=xD (l:=l) (h:=h) (fun j hj=>gh j aj)
  refine zE 0<|ba<|aS<|br<|aq<|zq<|zR (zV [yJ (-1:Int) (dJ l h) (by rw [hf])])
def Dd (l:List na) (p:UInt64):Int:=if vt l p<l.length then (vt l p:Int) else -1
theorem pO (l:List na) (p:UInt64) (y1:l.length≤1000000):bL Tryz.prog 112 [.sl 7 (ae bg l),aw p] (ai (Dd l p)):=by
 have hl:(ae bg l).length=l.length*7:=aG (e:=7) (fun _=>rfl) ..
 refine zO Tryz.func112 20<|zq<|zS<|zq<|zB 0 (zL (fun (i:Nat)=>(⟨[(0,AV.sl 7 (ae bg l)),(1,aw p),(5,ai i)],[]⟩:AS)) (fun i=>(i≤l.length∧ ∀j,j<i->(l.getD j default).bZ≠p)) (fun i=>(l.length-i)) (0) ?_ (zW [.aa [0,1,5] []]) ?_)
 ·exact ⟨aj,aj⟩
 rintro i ⟨hi,gh⟩
 refine zS<|zP 1 [yH [(2,{k:=l.length})]] [.aa [9,0,1,5] []] [yI hl] (zD 9 ((↑i:Int)<(↑l.length:Int)) (fun g=>?_) (fun g=>?_))
 ·have dM:i<l.length:=aj
  by_cases e:(l.getD i default).bZ=p
  ·have hf:=IK dM gh e
   refine a_<|zS<|zB 1<|zP 1 [yH [(2,{k:=i}),(4,yV (aw ((l.getD i default).bZ))),(6,yV (ao ((l.getD i default).bZ == p)))]] [.aa [18,9,0,1,5] []] [yR (↑i:Int),yO (i*7<(ae bg l).length),yB ((ae bg l)[i*7]?=some (aw ((l.getD i default).bZ))) (bc (f:=bg) (e:=7) (k:=i) (j:=0) (fun _=>rfl) aj rfl),yI (fv ((l.getD i default).bZ) p)]<|dB 18 ((l.getD i default).bZ == p) fg<|zq<|zR<|a6<|aI<|de<|a6<|aI (zV [yJ (↑i:Int) (Dd l p) (by unfold Dd;rw [hf,if_pos dM])])
  ·skip
   refine a_<|zS<|zB 1<|zP 1 [yH [(2,{k:=i}),(4,yV (aw ((l.getD i default).bZ))),(6,yV (ao ((l.getD i default).bZ == p)))]] [.aa [18,9,0,1,5] []] [yR (↑i:Int),yO (i*7<(ae bg l).length),yB ((ae bg l)[i*7]?=some (aw ((l.getD i default).bZ))) (bc (f:=bg) (e:=7) (k:=i) (j:=0) (fun _=>rfl) aj rfl),yI (fv ((l.getD i default).bZ) p)]<|bn 18 ((l.getD i default).bZ == p) bE<|zK<|aL<|aq<|zX (yH [(1,yV (ai ((↑i:Int)+1)))]) [yN ((↑i:Int)+1)] (aK (i+1) ⟨aj,fun j hj=>by by_cases e2:j=i;(subst e2;exact e);exact gh j aj⟩ aj (zW [.aa [0,1,5] []]))
 ·have hf:=IJ (l:=l) (p:=p) (fun j hj=>gh j aj)
  refine zE 0<|ba<|aS<|br<|aq<|zq<|zR (zV [yJ (-1:Int) (Dd l p) (by unfold Dd;rw [hf,if_neg (Nat.lt_irrefl _)])])
theorem la {l:List gl} {i:Nat} (h:i<l.length):List.take 4 (List.drop (i*4) (ae aP l))=aP (l.getD i default):=ku (e:=4) (fun _=>rfl) h
theorem uj {l:List Mem} {n:List UInt8} {k:Nat} (h:dJ l n=k):Kw l n=l.getD k default:=by unfold Kw;rw [h];rfl
def Hv (l:List gl) (i:Nat):Prop:=0<i∧Fq (l.getD i default).name (l.getD (i-1) default).name=true
theorem OD {g:gX} {w:UInt64} {l:List gl} {i:Nat} (h:Hv l i):jW g w l i=7:=if_pos h
theorem Ly {g:gX} {w:UInt64} {l:List gl} {i:Nat} (h:¬Hv l i) (h2:dJ g.al (l.getD i default).name<0):jW g w l i=11:=(if_neg h).trans (if_pos h2)
section
variable {g:gX} {w:UInt64} {l:List gl} {i k:Nat} (h:¬Hv l i) (h2:dJ g.al (l.getD i default).name=k)
include h h2
theorem GH {e:Int} (he:ky (g.al.getD k default).h (g.al.getD k default).r w (l.getD i default).leaf (l.getD i default).bI (l.getD i default).path=e) (h0:e≠0):jW g w l i=e:=by
 refine (if_neg h).trans ?_;rw [if_neg aj,uj h2,he,if_pos h0]
theorem w_ (he:ky (g.al.getD k default).h (g.al.getD k default).r w (l.getD i default).leaf (l.getD i default).bI (l.getD i default).path=0):jW g w l i=if (g.al.getD k default).used&&&gC (l.getD i default).leaf≠0 then 37 else 0:=by
 refine (if_neg h).trans ?_;rw [if_neg aj,uj h2,he,if_neg aj]
end
theorem k_ {g:gX} {w:UInt64} {l:List gl} {i:Nat} (hi:i<l.length) (h0:ff (jW g w l) i=0) {e:Int} (he:jW g w l i=e) (hn:e≠0):fA g w l=e:=by
 have k2:ff (jW g w l) (i+1)=e:=by show (if _ then _ else _)=_;rw [if_neg aj,he]
 have:=lg hn k2 l.length hi
 unfold fA
 rw [this,if_pos hn]
theorem Js (g:gX) (w:UInt64) (V:List gl) (hm:g.al.length≤1000) (hv:V.length≤1000000):bL Tryz.prog 58 [.agg (bQ g),.sl 4 (ae aP V),aw w] (ai (fA g w V)):=by
 have xN:(ae aP V).length=V.length*4:=aG (e:=4) (fun _=>rfl) ..
 have m7:(ae aF g.al).length=g.al.length*4:=aG (e:=4) (fun _=>rfl) ..
 refine zO Tryz.func58 68<|zq<|zS<|zQ 1 [yH [(1,{k:=V.length})]] [yI xN]<|zB 0 (zL (fun (i:Nat)=>(⟨[(12,ai (↑V.length:Int)),(11,AV.sl 4 (ae aP V)),(3,AV.addr 3 0),(0,AV.agg (bQ g)),(1,AV.sl 4 (ae aP V)),(2,aw w),(13,ai i)],[(3,⟨1,false,true,List.map (aE 3) (bQ g)⟩)]⟩:AS)) (fun i=>(i≤V.length∧ff (jW g w V) i=0)) (fun i=>(V.length-i)) (0) ?_ (zW [.aa [12,11,3,0,1,2,13] [3]]) ?_)
 ·exact ⟨aj,rfl⟩
 rintro i ⟨hi,h0⟩
 refine zq<|zS (zD 14 ((↑i:Int)<(↑V.length:Int)) (fun q=>?_) (fun q=>?_))
 ·have dM:i<V.length:=aj
  have gN:=la dM
  refine a_<|zS<|zB 1<|zP 1 [yH [(1,{k:=i}),(2,yV (AV.agg (aP (V.getD i default))))]] [.aa [7,8,14,12,11,3,0,1,2,13] [8,3]] [yR (↑i:Int),yO (i*4<(ae aP V).length),yB (List.take 4 (List.drop (i*4) (ae aP V))=(aP (V.getD i default))) (dr (f:=aP) (e:=4) (k:=i) (j:=0) (fun _=>rfl) aj (by decide) rfl),yR 4,yL 4 4] (bf.oM (fun (u:Unit)=>(⟨[(7,ai ↑i),(8,AV.addr 8 0),(14,ao (decide ((↑i:Int)<(↑V.length:Int)))),(12,ai (↑V.length:Int)),(11,AV.sl 4 (ae aP V)),(3,AV.addr 3 0),(0,AV.agg (bQ g)),(1,AV.sl 4 (ae aP V)),(2,aw w),(13,ai ↑i)],[(8,⟨1,false,true,(aP (V.getD i default))⟩),(3,⟨1,false,true,List.map (aE 8) (List.map (aE 3) (bQ g))⟩)]⟩:AS)) (fun u=>(¬Hv V i)) bk ?_ ?_)
  ·by_cases c6:0<i
   ·obtain ⟨k,hk⟩:∃k,k+1=i:=⟨i-1,aj⟩
    have xU:=la (l:=V) (i:=k) aj
    have ek:i-1=k:=aj
    by_cases c7:Fq (V.getD i default).name (V.getD k default).name=true
    ·have k1:=k_ dM h0 (OD (g:=g) (w:=w) ⟨c6,by rw [ek];exact c7⟩) aj
     refine zP 1 [{hs:=[(7,yV (ai ↑k)),(8,{k:=k}),(10,yV (cF (V.getD k default).name))],T:=11}] [.aa [30,7,8,14,12,11,3,0,1,2,13] [8,3]] (yM 5 (yT ((↑i:Int)>0))++ [yB (ai (IntKind.i64.wrap ((↑i:Int)-1))=ai ↑k) (congrArg (fun n=>AV.val (.int .i64 n)) (by rw [IntKind.wrap_i64];omega)),yT ((↑i:Int)>0),yR (↑k:Int),yO (k*4<(ae aP V).length)]++yM 2 (yT ((↑i:Int)>0))++ [yB ((ae aP V)[k*4]?=some (cF (V.getD k default).name)) (bc (f:=aP) (e:=4) (k:=k) (j:=0) (fun _=>rfl) aj rfl)]++yM 2 (yT ((↑i:Int)>0)))<|dB 30 (Op.bytesLess (ByteArray.mk (V.getD i default).name.toArray).toList (ByteArray.mk (V.getD k default).name.toArray).toList || (ByteArray.mk (V.getD i default).name.toArray).toList == (ByteArray.mk (V.getD k default).name.toArray).toList) (by assumption)<|zq<|dn<|a6<|aI<|de<|a6<|aI (zV [yJ 7 (fA g w V) (by rw [k1])])
    ·have c9:Fq (V.getD i default).name (V.getD k default).name=false:=by simpa using c7
     refine zP 1 [{hs:=[(7,yV (ai ↑k)),(8,{k:=k}),(10,yV (cF (V.getD k default).name))],T:=11}] [.aa [30,7,8,14,12,11,3,0,1,2,13] [8,3]] (yM 5 (yT ((↑i:Int)>0))++ [yB (ai (IntKind.i64.wrap ((↑i:Int)-1))=ai ↑k) (congrArg (fun n=>AV.val (.int .i64 n)) (by rw [IntKind.wrap_i64];omega)),yT ((↑i:Int)>0),yR (↑k:Int),yO (k*4<(ae aP V).length)]++yM 2 (yT ((↑i:Int)>0))++ [yB ((ae aP V)[k*4]?=some (cF (V.getD k default).name)) (bc (f:=aP) (e:=4) (k:=k) (j:=0) (fun _=>rfl) aj rfl)]++yM 2 (yT ((↑i:Int)>0)))<|bn 30 (Op.bytesLess (ByteArray.mk (V.getD i default).name.toArray).toList (ByteArray.mk (V.getD k default).name.toArray).toList || (ByteArray.mk (V.getD i default).name.toArray).toList == (ByteArray.mk (V.getD k default).name.toArray).toList) (by assumption)<|a_ (⟨(),(fun q=>by have:=q.2;rw [ek] at this;exact c7 this),(zW [.aa [7,8,14,12,11,3,0,1,2,13] [8,3]])⟩)
   ·skip
    refine zP 1 [{hs:=[(3,{g:=false}),(4,{g:=false}),(5,{g:=false}),(6,{g:=false}),(7,{g:=false}),(8,{g:=false}),(9,{g:=false}),(10,{g:=false}),(11,{g:=false}),(12,{b:=false})],T:=11}] [.aa [30,7,8,14,12,11,3,0,1,2,13] [8,3]] (yM 10 (yF ((↑i:Int)>0)))<|zF 30<|a_ (⟨(),(fun q=>c6 q.1),(zW [.aa [7,8,14,12,11,3,0,1,2,13] [8,3]])⟩)
  intro u hu
  have m9:=nJ g (V.getD i default).name aj
  rcases gH g.al (V.getD i default).name with hk|⟨k,hk,iH,PC⟩
  ·have k1:=k_ dM h0 (Ly (g:=g) (w:=w) hu aj) aj
   rw [hk] at m9
   refine zP 1 [yH [(3,yV (ai (-1:Int)))]] [.aa [9,7,8,14,12,11,3,0,1,2,13] [8,3]] [yI m9]<|zS<|zq<|gU 36 ((-1:Int)<0)<|zq<|dn<|a6<|aI<|de<|a6<|aI (zV [yJ 11 (fA g w V) (by rw [k1])])
  have RF:=nY iH
  rw [hk] at m9
  have KI:=BD (g.al.getD k default).h (g.al.getD k default).r w (V.getD i default).leaf (V.getD i default).bI (V.getD i default).path
  by_cases cv:ky (g.al.getD k default).h (g.al.getD k default).r w (V.getD i default).leaf (V.getD i default).bI (V.getD i default).path=0
  case neg =>
   have k1:=k_ dM h0 (GH hu hk rfl cv) cv
   refine zP 1 [yH [(3,yV (ai ↑k))]] [.aa [9,7,8,14,12,11,3,0,1,2,13] [8,3]] [yI m9]<|zS<|zQ 1 [yH [(1,yV (ao false))]] [yR (ao false)]<|zF 36<|a_<|zS<|zP 2 [{hs:=[(3,{k:=k}),(5,yV (AV.agg [ai ((g.al.getD k default).h),aw ((g.al.getD k default).r)])),(9,yV (ai (ky (g.al.getD k default).h (g.al.getD k default).r w (V.getD i default).leaf (V.getD i default).bI (V.getD i default).path)))],T:=9},{}] [.aa [48,10,36,9,7,8,14,12,11,3,0,1,2,13] [8,3]] [yR (↑k:Int),yO (k*4<(ae aF g.al).length),yB (List.take 2 (List.drop (k*4+1) (ae aF g.al))= [ai ((g.al.getD k default).h),aw ((g.al.getD k default).r)]) (dr (f:=aF) (e:=4) (k:=k) (j:=1) (fun _=>rfl) aj (by decide) rfl),yR 2,yI KI]<|dB 48 (ky (g.al.getD k default).h (g.al.getD k default).r w (V.getD i default).leaf (V.getD i default).bI (V.getD i default).path != (0:Int)) (by simp_all)<|zP 1 [{}] [.aa [6,48,10,36,9,7,8,14,12,11,3,0,1,2,13] [8,3]] []<|dn<|a6<|aI<|de<|a6<|aI (zV [yJ (ky (g.al.getD k default).h (g.al.getD k default).r w (V.getD i default).leaf (V.getD i default).bI (V.getD i default).path) (fA g w V) (by rw [k1])])
  have KO:=tC cv
  have hr:=w_ hu hk cv
  rw [cv] at KI
  by_cases cu:(g.al.getD k default).used&&&gC (V.getD i default).leaf=0
  ·rw [if_neg (fun q=>q cu)] at hr
   refine zP 1 [yH [(3,yV (ai ↑k))]] [.aa [9,7,8,14,12,11,3,0,1,2,13] [8,3]] [yI m9]<|zS<|zq<|dt 36 ((↑k:Int)<0)<|a_<|zS<|zP 2 [{hs:=[(3,{k:=k}),(5,yV (AV.agg [ai ((g.al.getD k default).h),aw ((g.al.getD k default).r)])),(9,yV (ai 0))],T:=9},{}] [.aa [48,10,36,9,7,8,14,12,11,3,0,1,2,13] [8,3]] [yR (↑k:Int),yO (k*4<(ae aF g.al).length),yB (List.take 2 (List.drop (k*4+1) (ae aF g.al))= [ai ((g.al.getD k default).h),aw ((g.al.getD k default).r)]) (dr (f:=aF) (e:=4) (k:=k) (j:=1) (fun _=>rfl) aj (by decide) rfl),yR 2,yI KI]<|zF 48<|a_<|zP 1 [{hs:=[(3,{k:=k}),(5,yV (aw ((g.al.getD k default).used))),(9,yV (aw (gC (V.getD i default).leaf))),(10,yV (aw ((g.al.getD k default).used&&&gC (V.getD i default).leaf))),(11,yV (ao false))],T:=10}] [.aa [61,48,10,36,9,7,8,14,12,11,3,0,1,2,13] [8,3]] [yR (↑k:Int),yO (k*4<(ae aF g.al).length),yB ((ae aF g.al)[k*4+3]?=some (aw ((g.al.getD k default).used))) (bc (f:=aF) (e:=4) (k:=k) (j:=3) (fun _=>rfl) aj rfl),yB (AV.val (Value.int .u64 (IntKind.u64.wrap ((1:Int)*(2:Int)^min (V.getD i default).leaf.toNat IntKind.u64.bits)))=aw (gC (V.getD i default).leaf)) (jB 1 _ KO.1 aj),yO ((0:Int)≤(V.getD i default).leaf),yI (iZ ((g.al.getD k default).used) (gC (V.getD i default).leaf)),yB (ao (wv ((g.al.getD k default).used&&&gC (V.getD i default).leaf) != (0:Int))=ao false) (by rw [cu];rfl)]<|zF 61<|zK<|aL<|aq<|zX (yH [(0,yV (ai ((↑i:Int)+1)))]) [yN ((↑i:Int)+1)] (aK (i+1) ⟨aj,by show (if _ then _ else _)=_;rw [if_neg aj,hr]⟩ aj (zW [.aa [12,11,3,0,1,2,13] [3]]))
  ·rw [if_pos cu] at hr
   have k1:=k_ dM h0 hr aj
   refine zP 1 [yH [(3,yV (ai ↑k))]] [.aa [9,7,8,14,12,11,3,0,1,2,13] [8,3]] [yI m9]<|zS<|zq<|dt 36 ((↑k:Int)<0)<|a_<|zS<|zP 2 [{hs:=[(3,{k:=k}),(5,yV (AV.agg [ai ((g.al.getD k default).h),aw ((g.al.getD k default).r)])),(9,yV (ai 0))],T:=9},{}] [.aa [48,10,36,9,7,8,14,12,11,3,0,1,2,13] [8,3]] [yR (↑k:Int),yO (k*4<(ae aF g.al).length),yB (List.take 2 (List.drop (k*4+1) (ae aF g.al))= [ai ((g.al.getD k default).h),aw ((g.al.getD k default).r)]) (dr (f:=aF) (e:=4) (k:=k) (j:=1) (fun _=>rfl) aj (by decide) rfl),yR 2,yI KI]<|zF 48<|a_<|zP 1 [{hs:=[(3,{k:=k}),(5,yV (aw ((g.al.getD k default).used))),(9,yV (aw (gC (V.getD i default).leaf))),(10,yV (aw ((g.al.getD k default).used&&&gC (V.getD i default).leaf))),(11,yV (ao ((g.al.getD k default).used&&&gC (V.getD i default).leaf != 0)))],T:=10}] [.aa [61,48,10,36,9,7,8,14,12,11,3,0,1,2,13] [8,3]] [yR (↑k:Int),yO (k*4<(ae aF g.al).length),yB ((ae aF g.al)[k*4+3]?=some (aw ((g.al.getD k default).used))) (bc (f:=aF) (e:=4) (k:=k) (j:=3) (fun _=>rfl) aj rfl),yB (AV.val (Value.int .u64 (IntKind.u64.wrap ((1:Int)*(2:Int)^min (V.getD i default).leaf.toNat IntKind.u64.bits)))=aw (gC (V.getD i default).leaf)) (jB 1 _ KO.1 aj),yO ((0:Int)≤(V.getD i default).leaf),yI (iZ ((g.al.getD k default).used) (gC (V.getD i default).leaf)),yI (cN ((g.al.getD k default).used&&&gC (V.getD i default).leaf) 0)]<|dB 61 ((g.al.getD k default).used&&&gC (V.getD i default).leaf != 0) (by simp_all)<|zq<|zR<|a6<|aI<|de<|a6<|aI (zV [yJ 37 (fA g w V) (by rw [k1])])
 ·have e:i=V.length:=aj
  subst e
  refine zE 0<|ba<|aS<|br<|aq<|zS<|zP 1 [yH [(1,{k:=V.length})]] [.aa [67,14,12,11,3,0,1,2,13] [3]] [yI xN] (zD 67 ((↑V.length:Int)<g.bA) (fun q2=>?_) (fun q2=>?_))
  ·skip
   refine zq<|dn (zV [yJ 41 (fA g w V) (by unfold fA;rw [if_neg aj,if_pos aj])])
  ·skip
   refine a_<|zq<|zR (zV [yJ 0 (fA g w V) (by unfold fA;rw [if_neg aj,if_neg aj])])
theorem xj (g:gX) (w:UInt64) (V:List gl) (hm:g.al.length≤1000) (hv:V.length≤1000000):bL Tryz.prog 62 [.agg (bQ g),.sl 4 (ae aP V),aw w] (ai (fA g w V)):=by
 have xN:(ae aP V).length=V.length*4:=aG (e:=4) (fun _=>rfl) ..
 have m7:(ae aF g.al).length=g.al.length*4:=aG (e:=4) (fun _=>rfl) ..
 refine zO Tryz.func62 79<|zq<|zS<|zq<|zB 0 (zL (fun (i:Nat)=>(⟨[(3,AV.addr 3 0),(0,AV.agg (bQ g)),(1,AV.sl 4 (ae aP V)),(2,aw w),(7,ai i)],[(3,⟨1,false,true,List.map (aE 3) (bQ g)⟩)]⟩:AS)) (fun i=>(i≤V.length∧ff (jW g w V) i=0)) (fun i=>(V.length-i)) (0) ?_ (zW [.aa [3,0,1,2,7] [3]]) ?_)
 ·exact ⟨aj,rfl⟩
 rintro i ⟨hi,h0⟩
 refine zS<|zP 1 [yH [(2,{k:=V.length})]] [.aa [13,3,0,1,2,7] [3]] [yI xN] (zD 13 ((↑i:Int)<(↑V.length:Int)) (fun q=>?_) (fun q=>?_))
 ·have dM:i<V.length:=aj
  have gN:=la dM
  refine a_<|zS<|zB 1 (bf.oM (fun (u:Unit)=>(⟨[(13,ao (decide ((↑i:Int)<(↑V.length:Int)))),(3,AV.addr 3 0),(0,AV.agg (bQ g)),(1,AV.sl 4 (ae aP V)),(2,aw w),(7,ai ↑i)],[(3,⟨1,false,true,List.map (aE 3) (bQ g)⟩)]⟩:AS)) (fun u=>(¬Hv V i)) bk ?_ ?_)
  ·by_cases c6:0<i
   ·obtain ⟨k,hk⟩:∃k,k+1=i:=⟨i-1,aj⟩
    have xU:=la (l:=V) (i:=k) aj
    have ek:i-1=k:=aj
    by_cases c7:Fq (V.getD i default).name (V.getD k default).name=true
    ·have k1:=k_ dM h0 (OD (g:=g) (w:=w) ⟨c6,by rw [ek];exact c7⟩) aj
     refine zP 1 [{hs:=[(5,{k:=i}),(7,yV (cF (V.getD i default).name)),(10,yV (ai ↑k)),(11,{k:=k}),(13,yV (cF (V.getD k default).name))],T:=14}] [.aa [31,13,3,0,1,2,7] [3]] (yM 3 (yT ((↑i:Int)>0))++ [yR (↑i:Int),yO (i*4<(ae aP V).length)]++yM 2 (yT ((↑i:Int)>0))++ [yB ((ae aP V)[i*4]?=some (cF (V.getD i default).name)) (bc (f:=aP) (e:=4) (k:=i) (j:=0) (fun _=>rfl) aj rfl)]++yM 3 (yT ((↑i:Int)>0))++ [yB (ai (IntKind.i64.wrap ((↑i:Int)-1))=ai ↑k) (congrArg (fun n=>AV.val (.int .i64 n)) (by rw [IntKind.wrap_i64];omega)),yT ((↑i:Int)>0),yR (↑k:Int),yO (k*4<(ae aP V).length)]++yM 2 (yT ((↑i:Int)>0))++ [yB ((ae aP V)[k*4]?=some (cF (V.getD k default).name)) (bc (f:=aP) (e:=4) (k:=k) (j:=0) (fun _=>rfl) aj rfl)]++yM 2 (yT ((↑i:Int)>0)))<|dB 31 (Op.bytesLess (ByteArray.mk (V.getD i default).name.toArray).toList (ByteArray.mk (V.getD k default).name.toArray).toList || (ByteArray.mk (V.getD i default).name.toArray).toList == (ByteArray.mk (V.getD k default).name.toArray).toList) (by assumption)<|zq<|dn<|a6<|aI<|de<|a6<|aI (zV [yJ 7 (fA g w V) (by rw [k1])])
    ·have c9:Fq (V.getD i default).name (V.getD k default).name=false:=by simpa using c7
     refine zP 1 [{hs:=[(5,{k:=i}),(7,yV (cF (V.getD i default).name)),(10,yV (ai ↑k)),(11,{k:=k}),(13,yV (cF (V.getD k default).name))],T:=14}] [.aa [31,13,3,0,1,2,7] [3]] (yM 3 (yT ((↑i:Int)>0))++ [yR (↑i:Int),yO (i*4<(ae aP V).length)]++yM 2 (yT ((↑i:Int)>0))++ [yB ((ae aP V)[i*4]?=some (cF (V.getD i default).name)) (bc (f:=aP) (e:=4) (k:=i) (j:=0) (fun _=>rfl) aj rfl)]++yM 3 (yT ((↑i:Int)>0))++ [yB (ai (IntKind.i64.wrap ((↑i:Int)-1))=ai ↑k) (congrArg (fun n=>AV.val (.int .i64 n)) (by rw [IntKind.wrap_i64];omega)),yT ((↑i:Int)>0),yR (↑k:Int),yO (k*4<(ae aP V).length)]++yM 2 (yT ((↑i:Int)>0))++ [yB ((ae aP V)[k*4]?=some (cF (V.getD k default).name)) (bc (f:=aP) (e:=4) (k:=k) (j:=0) (fun _=>rfl) aj rfl)]++yM 2 (yT ((↑i:Int)>0)))<|bn 31 (Op.bytesLess (ByteArray.mk (V.getD i default).name.toArray).toList (ByteArray.mk (V.getD k default).name.toArray).toList || (ByteArray.mk (V.getD i default).name.toArray).toList == (ByteArray.mk (V.getD k default).name.toArray).toList) (by assumption)<|a_ (⟨(),(fun q=>by have:=q.2;rw [ek] at this;exact c7 this),(zW [.aa [13,3,0,1,2,7] [3]])⟩)
   ·skip
    refine zP 1 [{hs:=[(3,{g:=false}),(4,{g:=false}),(5,{g:=false}),(6,{g:=false}),(7,{g:=false}),(8,{g:=false}),(9,{g:=false}),(10,{g:=false}),(11,{g:=false}),(12,{g:=false}),(13,{g:=false}),(14,{g:=false}),(15,{b:=false})],T:=14}] [.aa [31,13,3,0,1,2,7] [3]] (yM 13 (yF ((↑i:Int)>0)))<|zF 31<|a_ (⟨(),(fun q=>c6 q.1),(zW [.aa [13,3,0,1,2,7] [3]])⟩)
  intro u hu
  have m9:=ml g.al (V.getD i default).name aj
  rcases gH g.al (V.getD i default).name with hk|⟨k,hk,iH,PC⟩
  ·have k1:=k_ dM h0 (Ly (g:=g) (w:=w) hu aj) aj
   rw [hk] at m9
   refine zP 1 [{hs:=[(4,{k:=i}),(6,yV (cF (V.getD i default).name)),(7,yV (ai (-1:Int)))],T:=7}] [.aa [8,13,3,0,1,2,7] [3]] [yR (↑i:Int),yO (i*4<(ae aP V).length),yB ((ae aP V)[i*4]?=some (cF (V.getD i default).name)) (bc (f:=aP) (e:=4) (k:=i) (j:=0) (fun _=>rfl) aj rfl),yI m9]<|zS<|zq<|gU 41 ((-1:Int)<0)<|zq<|dn<|a6<|aI<|de<|a6<|aI (zV [yJ 11 (fA g w V) (by rw [k1])])
  have RF:=nY iH
  rw [hk] at m9
  have KI:=vy (g.al.getD k default).h (g.al.getD k default).r w (V.getD i default).leaf (V.getD i default).bI (V.getD i default).path
  by_cases cv:ky (g.al.getD k default).h (g.al.getD k default).r w (V.getD i default).leaf (V.getD i default).bI (V.getD i default).path=0
  case neg =>
   have k1:=k_ dM h0 (GH hu hk rfl cv) cv
   refine zP 1 [{hs:=[(4,{k:=i}),(6,yV (cF (V.getD i default).name)),(7,yV (ai ↑k))],T:=7}] [.aa [8,13,3,0,1,2,7] [3]] [yR (↑i:Int),yO (i*4<(ae aP V).length),yB ((ae aP V)[i*4]?=some (cF (V.getD i default).name)) (bc (f:=aP) (e:=4) (k:=i) (j:=0) (fun _=>rfl) aj rfl),yI m9]<|zS<|zQ 1 [yH [(1,yV (ao false))]] [yR (ao false)]<|zF 41<|a_<|zS<|zP 2 [{hs:=[(3,{k:=k}),(5,yV (AV.agg [ai ((g.al.getD k default).h),aw ((g.al.getD k default).r)])),(9,{k:=i}),(11,yV (AV.agg [ai ((V.getD i default).leaf),AV.sl 1 (ah (V.getD i default).bI),AV.sl 1 (ah (V.getD i default).path)])),(12,yV (ai (ky (g.al.getD k default).h (g.al.getD k default).r w (V.getD i default).leaf (V.getD i default).bI (V.getD i default).path)))],T:=12},{}] [.aa [56,9,41,8,13,3,0,1,2,7] [3]] [yR (↑k:Int),yO (k*4<(ae aF g.al).length),yB (List.take 2 (List.drop (k*4+1) (ae aF g.al))= [ai ((g.al.getD k default).h),aw ((g.al.getD k default).r)]) (dr (f:=aF) (e:=4) (k:=k) (j:=1) (fun _=>rfl) aj (by decide) rfl),yR 2,yR (↑i:Int),yO (i*4<(ae aP V).length),yB (List.take 3 (List.drop (i*4+1) (ae aP V))= [ai ((V.getD i default).leaf),AV.sl 1 (ah (V.getD i default).bI),AV.sl 1 (ah (V.getD i default).path)]) (dr (f:=aP) (e:=4) (k:=i) (j:=1) (fun _=>rfl) aj (by decide) rfl),yR 3,yI KI]<|dB 56 (ky (g.al.getD k default).h (g.al.getD k default).r w (V.getD i default).leaf (V.getD i default).bI (V.getD i default).path != (0:Int)) (by simp_all)<|zP 1 [{}] [.aa [6,56,9,41,8,13,3,0,1,2,7] [3]] []<|dn<|a6<|aI<|de<|a6<|aI (zV [yJ (ky (g.al.getD k default).h (g.al.getD k default).r w (V.getD i default).leaf (V.getD i default).bI (V.getD i default).path) (fA g w V) (by rw [k1])])
  have KO:=tC cv
  have hr:=w_ hu hk cv
  rw [cv] at KI
  obtain ⟨z,hz,Re⟩:∃z:Nat,(V.getD i default).leaf=z∧z<16:=⟨(V.getD i default).leaf.toNat,aj,aj⟩
  have O7:IntKind.u64.wrap (V.getD i default).leaf=(z:Int):=by rw [hz,IntKind.wrap_u64];omega
  have Gx:=NL (g.al.getD k default).used z aj
  have T8:gC (V.getD i default).leaf=(1:UInt64)<<<UInt64.ofNat z:=by unfold gC;rw [hz];rfl
  rw [T8] at hr
  by_cases cu:(g.al.getD k default).used&&&((1:UInt64)<<<UInt64.ofNat z)=0
  ·rw [if_neg (fun q=>q cu)] at hr
   have cs:((((g.al.getD k default).used>>>UInt64.ofNat z)&&&1) == 1)=false:=beq_eq_false_iff_ne.2 fun q=>Gx.1 q cu
   refine zP 1 [{hs:=[(4,{k:=i}),(6,yV (cF (V.getD i default).name)),(7,yV (ai ↑k))],T:=7}] [.aa [8,13,3,0,1,2,7] [3]] [yR (↑i:Int),yO (i*4<(ae aP V).length),yB ((ae aP V)[i*4]?=some (cF (V.getD i default).name)) (bc (f:=aP) (e:=4) (k:=i) (j:=0) (fun _=>rfl) aj rfl),yI m9]<|zS<|zq<|dt 41 ((↑k:Int)<0)<|a_<|zS<|zP 2 [{hs:=[(3,{k:=k}),(5,yV (AV.agg [ai ((g.al.getD k default).h),aw ((g.al.getD k default).r)])),(9,{k:=i}),(11,yV (AV.agg [ai ((V.getD i default).leaf),AV.sl 1 (ah (V.getD i default).bI),AV.sl 1 (ah (V.getD i default).path)])),(12,yV (ai 0))],T:=12},{}] [.aa [56,9,41,8,13,3,0,1,2,7] [3]] [yR (↑k:Int),yO (k*4<(ae aF g.al).length),yB (List.take 2 (List.drop (k*4+1) (ae aF g.al))= [ai ((g.al.getD k default).h),aw ((g.al.getD k default).r)]) (dr (f:=aF) (e:=4) (k:=k) (j:=1) (fun _=>rfl) aj (by decide) rfl),yR 2,yR (↑i:Int),yO (i*4<(ae aP V).length),yB (List.take 3 (List.drop (i*4+1) (ae aP V))= [ai ((V.getD i default).leaf),AV.sl 1 (ah (V.getD i default).bI),AV.sl 1 (ah (V.getD i default).path)]) (dr (f:=aP) (e:=4) (k:=i) (j:=1) (fun _=>rfl) aj (by decide) rfl),yR 3,yI KI]<|zF 56<|a_<|zP 1 [{hs:=[(3,{k:=k}),(5,yV (aw ((g.al.getD k default).used))),(8,{k:=i}),(11,yV (ai ((V.getD i default).leaf))),(12,yV (AV.val (Value.int .u64 (↑z:Int)))),(13,yV (aw ((g.al.getD k default).used>>>UInt64.ofNat z))),(14,yV (aw ((g.al.getD k default).used>>>UInt64.ofNat z&&&(1:UInt64)))),(15,yV (ao ((g.al.getD k default).used>>>UInt64.ofNat z&&&(1:UInt64) == 1)))],T:=13}] [.aa [73,56,9,41,8,13,3,0,1,2,7] [3]] [yR (↑k:Int),yO (k*4<(ae aF g.al).length),yB ((ae aF g.al)[k*4+3]?=some (aw ((g.al.getD k default).used))) (bc (f:=aF) (e:=4) (k:=k) (j:=3) (fun _=>rfl) aj rfl),yR (↑i:Int),yO (i*4<(ae aP V).length),yB ((ae aP V)[i*4+1]?=some (ai ((V.getD i default).leaf))) (bc (f:=aP) (e:=4) (k:=i) (j:=1) (fun _=>rfl) aj rfl),yB (AV.val (Value.int .u64 (IntKind.u64.wrap (V.getD i default).leaf))=AV.val (Value.int .u64 (↑z:Int))) (congrArg (fun n=>AV.val (.int .u64 n)) O7),yI (fp ((g.al.getD k default).used) ((↑z:Int)) aj aj),yO ((0:Int)≤(↑z:Int)),yI (iZ ((g.al.getD k default).used>>>UInt64.ofNat z) 1),yI (fv ((g.al.getD k default).used>>>UInt64.ofNat z&&&(1:UInt64)) 1)]<|bn 73 ((g.al.getD k default).used>>>UInt64.ofNat z&&&(1:UInt64) == 1) (by assumption)<|zK<|aL<|aq<|zX (yH [(1,yV (ai ((↑i:Int)+1)))]) [yN ((↑i:Int)+1)] (aK (i+1) ⟨aj,by show (if _ then _ else _)=_;rw [if_neg aj,hr]⟩ aj (zW [.aa [3,0,1,2,7] [3]]))
  ·rw [if_pos cu] at hr
   have k1:=k_ dM h0 hr aj
   have cs:((((g.al.getD k default).used>>>UInt64.ofNat z)&&&1) == 1)=true:=beq_iff_eq.2 (Gx.2 cu)
   refine zP 1 [{hs:=[(4,{k:=i}),(6,yV (cF (V.getD i default).name)),(7,yV (ai ↑k))],T:=7}] [.aa [8,13,3,0,1,2,7] [3]] [yR (↑i:Int),yO (i*4<(ae aP V).length),yB ((ae aP V)[i*4]?=some (cF (V.getD i default).name)) (bc (f:=aP) (e:=4) (k:=i) (j:=0) (fun _=>rfl) aj rfl),yI m9]<|zS<|zq<|dt 41 ((↑k:Int)<0)<|a_<|zS<|zP 2 [{hs:=[(3,{k:=k}),(5,yV (AV.agg [ai ((g.al.getD k default).h),aw ((g.al.getD k default).r)])),(9,{k:=i}),(11,yV (AV.agg [ai ((V.getD i default).leaf),AV.sl 1 (ah (V.getD i default).bI),AV.sl 1 (ah (V.getD i default).path)])),(12,yV (ai 0))],T:=12},{}] [.aa [56,9,41,8,13,3,0,1,2,7] [3]] [yR (↑k:Int),yO (k*4<(ae aF g.al).length),yB (List.take 2 (List.drop (k*4+1) (ae aF g.al))= [ai ((g.al.getD k default).h),aw ((g.al.getD k default).r)]) (dr (f:=aF) (e:=4) (k:=k) (j:=1) (fun _=>rfl) aj (by decide) rfl),yR 2,yR (↑i:Int),yO (i*4<(ae aP V).length),yB (List.take 3 (List.drop (i*4+1) (ae aP V))= [ai ((V.getD i default).leaf),AV.sl 1 (ah (V.getD i default).bI),AV.sl 1 (ah (V.getD i default).path)]) (dr (f:=aP) (e:=4) (k:=i) (j:=1) (fun _=>rfl) aj (by decide) rfl),yR 3,yI KI]<|zF 56<|a_<|zP 1 [{hs:=[(3,{k:=k}),(5,yV (aw ((g.al.getD k default).used))),(8,{k:=i}),(11,yV (ai ((V.getD i default).leaf))),(12,yV (AV.val (Value.int .u64 (↑z:Int)))),(13,yV (aw ((g.al.getD k default).used>>>UInt64.ofNat z))),(14,yV (aw ((g.al.getD k default).used>>>UInt64.ofNat z&&&(1:UInt64)))),(15,yV (ao ((g.al.getD k default).used>>>UInt64.ofNat z&&&(1:UInt64) == 1)))],T:=13}] [.aa [73,56,9,41,8,13,3,0,1,2,7] [3]] [yR (↑k:Int),yO (k*4<(ae aF g.al).length),yB ((ae aF g.al)[k*4+3]?=some (aw ((g.al.getD k default).used))) (bc (f:=aF) (e:=4) (k:=k) (j:=3) (fun _=>rfl) aj rfl),yR (↑i:Int),yO (i*4<(ae aP V).length),yB ((ae aP V)[i*4+1]?=some (ai ((V.getD i default).leaf))) (bc (f:=aP) (e:=4) (k:=i) (j:=1) (fun _=>rfl) aj rfl),yB (AV.val (Value.int .u64 (IntKind.u64.wrap (V.getD i default).leaf))=AV.val (Value.int .u64 (↑z:Int))) (congrArg (fun n=>AV.val (.int .u64 n)) O7),yI (fp ((g.al.getD k default).used) ((↑z:Int)) aj aj),yO ((0:Int)≤(↑z:Int)),yI (iZ ((g.al.getD k default).used>>>UInt64.ofNat z) 1),yI (fv ((g.al.getD k default).used>>>UInt64.ofNat z&&&(1:UInt64)) 1)]<|dB 73 ((g.al.getD k default).used>>>UInt64.ofNat z&&&(1:UInt64) == 1) (by assumption)<|zq<|zR<|a6<|aI<|de<|a6<|aI (zV [yJ 37 (fA g w V) (by rw [k1])])
 ·have e:i=V.length:=aj
  subst e
  refine zE 0<|ba<|aS<|br<|aq<|zS<|zP 1 [yH [(1,{k:=V.length})]] [.aa [78,13,3,0,1,2,7] [3]] [yI xN] (zD 78 ((↑V.length:Int)<g.bA) (fun q2=>?_) (fun q2=>?_))
  ·skip
   refine zq<|dn (zV [yJ 41 (fA g w V) (by unfold fA;rw [if_neg aj,if_pos aj])])
  ·skip
   refine a_<|zq<|zR (zV [yJ 0 (fA g w V) (by unfold fA;rw [if_neg aj,if_neg aj])])
end Go.Proofs.YtjgbhhnghedgdaaGreatDoor
