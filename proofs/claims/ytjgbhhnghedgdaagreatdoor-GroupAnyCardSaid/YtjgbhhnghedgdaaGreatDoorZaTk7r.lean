import Derived.Test.YtjgbhhnghedgdaaGreatDoorZaGrB3
set_option linter.all false
namespace Go.Proofs.YtjgbhhnghedgdaaGreatDoor
open Go.RowKit
set_option maxRecDepth 100000
set_option maxHeartbeats 4000000
theorem tS (leaf:Int) (m:UInt64) (s:List UInt64):bK Tryz.prog 114 [ai leaf,aw m,.sl 1 (aj s)] (.bq [aw (oz leaf m s),ai (lx s)]):=by
 by_cases hs:s.length=18
 case neg =>
  have e1:oz leaf m s=0:=if_neg hs
  have e2:lx s=4:=if_neg hs
  refine zO Tryz.func114 37<|zq<|zS<|zP 1 [yH [(1,{k:=s.length})]] [.ae [13,7,6,0,1,2] []] [yI (aA s)]<|du 13 ((↑s.length:Int) != (18:Int)) (by simp;omega)<|zq<|dk (zV [yK 0 (wv (oz leaf m s)) (by rw [e1];rfl),yJ 4 (lx s) (by rw [e2])])
 have e1:oz leaf m s=combine leaf (cM leaf m s 18):=if_pos hs
 have e2:lx s=0:=if_pos hs
 have hd:=nN m
 refine zO Tryz.func114 37<|zq<|zS<|zP 1 [yH [(1,{k:=s.length})]] [.ae [13,7,6,0,1,2] []] [yI (aA s)]<|bj 13 ((↑s.length:Int) != (18:Int)) (by simp_all)<|a_<|zQ 2 [yH [(1,yV (AV.own 1 (ax (b7 m))))],{}] [yI (mP m),yB (lj (ax (b7 m))) (vV _)]<|zS<|zq<|zB 0 (zL (fun (k:Nat)=>(⟨[(8,AV.ref 15),(13,ao ((↑s.length:Int) != (18:Int))),(7,ai 0),(6,cO),(0,ai leaf),(1,aw m),(2,AV.sl 1 (aj s)),(10,ai k),(9,AV.ref 31)],[(15,⟨1,true,false,ax (b7 m)⟩),(31,⟨1,true,false,aj (cM leaf m s k)⟩)]⟩:AS)) (fun k=>(k≤18)) (fun k=>(18-k)) (0) ?_ (zW [.nil 9 31 1,.ae [8,13,7,6,0,1,2,10,9] [15,31]]) ?_)
 ·omega
 intro k hk
 have hl:=Am leaf m s k
 refine zS<|zq (zD 17 ((↑k:Int)<18) (fun h=>?_) (fun h=>?_))
 ·skip
  refine a_<|zS<|zB 1<|zX ({hs:=[(5,{k:=k}),(6,yV (ai ((b7 m).getD k (0:Int)))),(9,{k:=k}),(10,yV (aw (s.getD k 0))),(11,yV (aw (run leaf (↑k:Int) ((b7 m).getD k (0:Int)) (15:Int) (s.getD k 0)))),(12,yV (AV.arr (aj [run leaf (↑k:Int) ((b7 m).getD k (0:Int)) (15:Int) (s.getD k 0)]))),(13,yV (AV.arr (aj (cM leaf m s k++ [run leaf (↑k:Int) ((b7 m).getD k (0:Int)) (15:Int) (s.getD k 0)]))))],T:=13}) [yR (↑k:Int),yO (k<18),yB ((ax (b7 m))[k]?=some (ai ((b7 m).getD k (0:Int)))) (lX ah),yR (↑k:Int),yB (k<(aj s).length) (by simp only [aA];omega),yB ((aj s)[k]?=some (aw (s.getD k 0))) (dI ah),yI (o7 leaf ((↑k:Int)) ((b7 m).getD k (0:Int)) ((15:Int)) (s.getD k 0)),yR [aw (run leaf (↑k:Int) ((b7 m).getD k (0:Int)) (15:Int) (s.getD k 0))],yB (aj (cM leaf m s k)++aj [run leaf (↑k:Int) ((b7 m).getD k (0:Int)) (15:Int) (s.getD k 0)]=aj (cM leaf m s k++ [run leaf (↑k:Int) ((b7 m).getD k (0:Int)) (15:Int) (s.getD k 0)])) (je _ _),yB (((aj (cM leaf m s k)).length+1)*8≤140737488355328) (by simp only [aA];omega)]<|aM<|ak<|zX (yH [(1,yV (ai ((↑k:Int)+1)))]) [yN ((↑k:Int)+1)] (aJ (k+1) ah ah (eK [.vo 33 31,.ae [8,13,7,6,0,1,2,10,9] [15,31]] [] [31] [yB (aj (cM leaf m s k++ [run leaf (↑k:Int) ((b7 m).getD k (0:Int)) (15:Int) (s.getD k 0)])=aj (cM leaf m s (k+1))) (congrArg aj (Fj leaf m s k).symm)]))
 ·have e:k=18:=ah
  subst e
  refine zE 0<|a7<|aO<|bn<|ak<|zP 1 [yH [(2,yV (aw (combine leaf (cM leaf m s 18))))]] [.ae [7,6,17,8,13,0,1,2,10,9] [15,31]] [yI (rV leaf (cM leaf m s 18) (by assumption))]<|zR (zV [yK (wv (combine leaf (cM leaf m s 18))) (wv (oz leaf m s)) (by rw [e1]),yJ 0 (lx s) (by rw [e2])])
theorem vy (h:Int) (r m:UInt64) (leaf:Int) (C P:List UInt64):bK Tryz.prog 69 [.agg [ai h,aw r],aw m,.agg [ai leaf,.sl 1 (aj C),.sl 1 (aj P)]] (ai (ku h r m leaf C P)):=by
 by_cases eX:i6 h leaf
 ·have e1:ku h r m leaf C P=9:=if_pos eX
  rw [e1]
  unfold i6 at eX
  by_cases hb:bA h
  ·refine zO Tryz.func69 84<|zq<|zS<|zP 1 [yH [(2,yV (ao (!decide (bA h))))]] [.ae [27,6,5,3,0,1,2] [5,3]] ([yI (b_ h)]++yM 4 (yS ((!!decide (bA h))=true))++yM 8 (yR true))<|zT 27<|zq<|dk (bV)
  have rj:0≤h∧h≤4:=by unfold bA at hb;omega
  obtain ⟨k,rfl⟩:=Int.eq_ofNat_of_zero_le rj.1
  rw [Int.toNat_natCast] at eX
  have hk:k≤4:=ah
  by_cases dh:leaf<0
  ·refine zO Tryz.func69 84<|zq<|zS<|zP 1 [yH ([(2,yV (ao (!decide (bA (↑k:Int))))),(8,{b:=false})]++yg [5,6,7])] [.ae [27,6,5,3,0,1,2] [5,3]] ([yI (b_ ((↑k:Int)))]++yM 4 (yS ((!!decide (bA (↑k:Int)))=false))++yM 8 (yT (leaf<0)))<|zT 27<|zq<|dk (bV)
  have uG:((2^k:Nat):Int)≤leaf:=by rcases eX with h|h|h<;>first|exact absurd h hb|exact absurd h dh|exact h
  have hp:2^k≤16:=Nat.pow_le_pow_right (by decide) (by omega:k≤4)
  have Cu:IntKind.i64.wrap (1*2^min (wv (u64 (k:Int))).toNat IntKind.i64.bits)=((2^k:Nat):Int):=by
   rcases (ah:k=0∨k=1∨k=2∨k=3∨k=4) with rfl|rfl|rfl|rfl|rfl<;>decide +kernel
  have J0:(0:Int)≤wv (u64 (k:Int)):=Int.natCast_nonneg _
  generalize 2^k=p2 at *
  refine zO Tryz.func69 84<|zq<|zS<|zP 1 [yH ([(2,yV (ao (!decide (bA (↑k:Int))))),(8,{b:=false}),(14,{av:=some (aw (u64 (↑k:Int))),g:=false}),(15,{av:=some (ai ↑p2),g:=false}),(17,{b:=false})]++yg [5,6,7,10,11,12,13,16])] [.ae [27,6,5,3,0,1,2] [5,3]] ([yI (b_ ((↑k:Int)))]++yM 4 (yS ((!!decide (bA (↑k:Int)))=false))++yM 5 (yF (leaf<0))++ [yI (a6 ((↑k:Int))),yF (leaf<0),yI (yc Cu),yI J0]++yM 2 (yF (leaf<0)))<|gT 27 (leaf≥(↑p2:Int))<|zq<|dk (bV)
 have hv:ku h r m leaf C P=if C.length≠18∨(P.length:Int)≠h then 4 else if dv leaf.toNat P (combine leaf (cM leaf m C 18)) h.toNat=r then 0 else 15:=if_neg eX
 unfold i6 bA at eX
 have rj:0≤h∧h≤4∧0≤leaf:=ah
 obtain ⟨k,rfl⟩:=Int.eq_ofNat_of_zero_le rj.1
 obtain ⟨i,rfl⟩:=Int.eq_ofNat_of_zero_le rj.2.2
 rw [Int.toNat_natCast] at eX
 rw [Int.toNat_natCast,Int.toNat_natCast] at hv
 have hk:k≤4:=ah
 have hb:¬bA (k:Int):=by unfold bA;omega
 have ho:¬((i:Int)<0∨((2^k:Nat):Int)≤i):=ah
 have hp:2^k≤16:=Nat.pow_le_pow_right (by decide) hk
 have Cu:IntKind.i64.wrap (1*2^min (wv (u64 (k:Int))).toNat IntKind.i64.bits)=((2^k:Nat):Int):=by
  rcases (ah:k=0∨k=1∨k=2∨k=3∨k=4) with rfl|rfl|rfl|rfl|rfl<;>decide +kernel
 have J0:(0:Int)≤wv (u64 (k:Int)):=Int.natCast_nonneg _
 rw [hv]
 by_cases hC:C.length=18
 case neg =>
  rw [if_pos (.inl hC)]
  refine zO Tryz.func69 84<|zq<|zS<|zP 1 [yH ([(2,yV (ao (!decide (bA (↑k:Int))))),(8,{b:=false}),(14,{av:=some (aw (u64 (↑k:Int))),g:=false}),(15,{av:=some (ai (↑((2:Nat)^k):Int)),g:=false}),(17,{b:=false})]++yg [5,6,7,10,11,12,13,16])] [.ae [27,6,5,3,0,1,2] [5,3]] ([yI (b_ ((↑k:Int)))]++yM 4 (yS ((!!decide (bA (↑k:Int)))=false))++yM 5 (yR false)++ [yI (a6 ((↑k:Int))),yR false,yI (yc Cu),yI J0,yR false,yR false])<|dp 27 ((↑i:Int)≥(↑((2:Nat)^k):Int))<|a_<|zS<|zP 1 [yH [(2,{k:=C.length})]] [.ae [39,27,6,5,3,0,1,2] [5,3]] ([yI (aA C)]++yM 7 (yB (((↑C.length:Int) != (18:Int))=true) (by simp;omega)))<|zT 39<|zq<|dk (bV)
 by_cases hP:P.length=k
 case neg =>
  rw [if_pos (.inr ah)]
  refine zO Tryz.func69 84<|zq<|zS<|zP 1 [yH ([(2,yV (ao (!decide (bA (↑k:Int))))),(8,{b:=false}),(14,{av:=some (aw (u64 (↑k:Int))),g:=false}),(15,{av:=some (ai (↑((2:Nat)^k):Int)),g:=false}),(17,{b:=false})]++yg [5,6,7,10,11,12,13,16])] [.ae [27,6,5,3,0,1,2] [5,3]] ([yI (b_ ((↑k:Int)))]++yM 4 (yS ((!!decide (bA (↑k:Int)))=false))++yM 5 (yR false)++ [yI (a6 ((↑k:Int))),yR false,yI (yc Cu),yI J0,yR false,yR false])<|dp 27 ((↑i:Int)≥(↑((2:Nat)^k):Int))<|a_<|zS<|zP 1 [yH ([(2,{k:=C.length}),(7,{k:=P.length,g:=false}),(11,{b:=false})]++yg [5,6,8,9,10])] [.ae [39,27,6,5,3,0,1,2] [5,3]] ([yI (aA C)]++yM 3 (yS (((↑C.length:Int) != (18:Int))=false))++ [yI (aA P)]++yM 4 (yS (((↑C.length:Int) != (18:Int))=false)))<|du 39 ((↑P.length:Int) != (↑k:Int)) (by simp;omega)<|zq<|dk (bV)
 rw [if_neg ah]
 have hr:oz i m C=combine i (cM i m C 18):=if_pos hC
 have he:lx C=0:=if_pos hC
 refine zO Tryz.func69 84<|zq<|zS<|zP 1 [yH ([(2,yV (ao (!decide (bA (↑k:Int))))),(8,{b:=false}),(14,{av:=some (aw (u64 (↑k:Int))),g:=false}),(15,{av:=some (ai (↑((2:Nat)^k):Int)),g:=false}),(17,{b:=false})]++yg [5,6,7,10,11,12,13,16])] [.ae [27,6,5,3,0,1,2] [5,3]] ([yI (b_ ((↑k:Int)))]++yM 4 (yS ((!!decide (bA (↑k:Int)))=false))++yM 5 (yR false)++ [yI (a6 ((↑k:Int))),yR false,yI (yc Cu),yI J0,yR false,yR false])<|dp 27 ((↑i:Int)≥(↑((2:Nat)^k):Int))<|a_<|zS<|zP 1 [yH ([(2,{k:=C.length}),(7,{k:=P.length,g:=false}),(11,{b:=false})]++yg [5,6,8,9,10])] [.ae [39,27,6,5,3,0,1,2] [5,3]] ([yI (aA C)]++yM 3 (yS (((↑C.length:Int) != (18:Int))=false))++ [yI (aA P)]++yM 4 (yS (((↑C.length:Int) != (18:Int))=false)))<|bj 39 ((↑P.length:Int) != (↑k:Int)) (by simp_all)<|a_<|zP 1 [yH [(5,yV (AV.bq [aw (oz (↑i:Int) m C),ai (lx C)]))]] [.ae [7,39,27,6,5,3,0,1,2] [5,3]] [yI (tS ((↑i:Int)) m C)]<|zS<|zq<|zB 0 (zL (fun (j:Nat)=>(⟨[(39,ao ((↑P.length:Int) != (↑k:Int))),(27,ao (decide ((↑i:Int)≥(↑((2:Nat)^k):Int)))),(6,ai 0),(5,AV.addr 5 0),(3,AV.addr 3 0),(0,AV.agg [ai ↑k,aw r]),(1,aw m),(2,AV.agg [ai ↑i,AV.sl 1 (aj C),AV.sl 1 (aj P)]),(9,ai j),(7,aw (dv i P (combine i (cM i m C 18)) j))],[(5,⟨1,false,true,[ai ↑i,AV.sl 1 (aj C),AV.sl 1 (aj P)]⟩),(3,⟨1,false,true,[ai ↑k,aw r]⟩)]⟩:AS)) (fun j=>(j≤k)) (fun j=>(k-j)) (0) ?_ (eK [.ae [39,27,6,5,3,0,1,2,9,7] [5,3]] [7] [] [yB (aw (oz (↑i:Int) m C)=aw (dv i P (combine (↑i:Int) (cM (↑i:Int) m C 18)) 0)) (congrArg aw hr)]) ?_)
 ·omega
 intro j hj
 refine zS<|bf.jW 1 [{}] [.ae [52,39,27,6,5,3,0,1,2,9,7] [5,3]] bh (s':=AS.mk [(52,ao (decide ((↑j:Int)<(↑k:Int)))),(39,ao ((↑P.length:Int) != (↑k:Int))),(27,ao (decide ((↑i:Int)≥(↑((2:Nat)^k):Int)))),(6,ai 0),(5,AV.addr 5 0),(3,AV.addr 3 0),(0,AV.agg [ai ↑k,aw r]),(1,aw m),(2,AV.agg [ai ↑i,AV.sl 1 (aj C),AV.sl 1 (aj P)]),(9,ai ↑j),(7,aw (dv i P (combine (↑i:Int) (cM (↑i:Int) m C 18)) j))] [(5,Row.mk 1 false true [ai ↑i,AV.sl 1 (aj C),AV.sl 1 (aj P)]),(3,Row.mk 1 false true [ai ↑k,aw r])]) (C:=[]) bh trivial (zD 52 ((↑j:Int)<(↑k:Int)) (fun g=>?_) (fun g=>?_))
 ·have hs:=zC i j ah
  have hle:i/2^j≤i:=Nat.div_le_self ..
  have hq:i/2^j<16:=ah
  have ha:=EV _ hq
  have MX:(0:Int)≤wv (u64 (j:Int)):=Int.natCast_nonneg _
  have RM:IntKind.i64.wrap ((j:Int)+1)=((j+1:Nat):Int):=by rw [e_ ah ah];omega
  have hc:dv i P (combine i (cM i m C 18)) (j+1)=if i/2^j%2=0 then gP ((j+1:Nat):Int) (dv i P (combine i (cM i m C 18)) j) (P.getD j 0) else gP ((j+1:Nat):Int) (P.getD j 0) (dv i P (combine i (cM i m C 18)) j):=rfl
  generalize i/2^j=q at *
  generalize hx:dv i P (combine i (cM i m C 18)) j=x at *
  by_cases h2:q%2=0
  ·rw [if_pos h2] at hc
   generalize q%2=q2 at *
   refine a_<|zS<|zB 1<|zP 1 [yH [(3,yV (aw (u64 (↑j:Int)))),(4,yV (ai ↑q)),(5,yV (ai ↑q2))]] [.ae [61,52,39,27,6,5,3,0,1,2,9,7] [5,3]] [yI (a6 ((↑j:Int))),yI (yc hs),yI MX,yI (yc ha)]<|du 61 ((↑q2:Int) == (0:Int)) fb<|zX (yH [(1,yV (ai (↑(j+1):Int))),(6,{k:=j}),(7,yV (aw (P.getD j 0))),(8,yV (aw (gP (↑(j+1):Int) x (P.getD j 0))))]) [yB (ai (IntKind.i64.wrap ((↑j:Int)+1))=ai (↑(j+1):Int)) (dG ah ah),yR (↑j:Int),yB (j<(aj P).length) (by simp only [aA];omega),yB ((aj P)[j]?=some (aw (P.getD j 0))) (dI ah),yI (lu (↑(j+1):Int) x (P.getD j 0))]<|aM<|ak<|bf.Oh {hs:=[(1,{av:=some (ai ((↑j:Int)+1))})]} (s':=AS.mk [(9,ai ((↑j:Int)+1)),(54,ai ((↑j:Int)+1)),(53,ai ↑j),(7,aw (gP (↑(j+1):Int) x (P.getD j 0))),(70,aw (gP (↑(j+1):Int) x (P.getD j 0))),(69,aw (P.getD j 0)),(68,AV.ptr (aj P) j),(67,ai ↑j),(66,AV.sl 1 (aj P)),(65,AV.addr 5 2),(64,aw x),(63,ai (↑(j+1):Int)),(62,ai ↑j),(61,ao ((↑q2:Int) == (0:Int))),(52,ao (decide ((↑j:Int)<(↑k:Int)))),(39,ao ((↑P.length:Int) != (↑k:Int))),(27,ao (decide ((↑i:Int)≥(↑((2:Nat)^k):Int)))),(6,ai 0),(5,AV.addr 5 0),(3,AV.addr 3 0),(0,AV.agg [ai ↑k,aw r]),(1,aw m),(2,AV.agg [ai ↑i,AV.sl 1 (aj C),AV.sl 1 (aj P)])] [(5,Row.mk 1 false true [ai ↑i,AV.sl 1 (aj C),AV.sl 1 (aj P)]),(3,Row.mk 1 false true [ai ↑k,aw r])]) (C:=[ai (IntKind.i64.wrap ((↑j:Int)+1))=ai ((↑j:Int)+1)]) bh ⟨(dG ah ah),trivial⟩ (aJ (j+1) ah ah (eK [.ae [39,27,6,5,3,0,1,2,9,7] [5,3]] [7] [] [yB (aw (gP (↑(j+1):Int) x (P.getD j 0))=aw (dv i P (combine (↑i:Int) (cM (↑i:Int) m C 18)) (j+1))) (by rw [hc])]))
  ·rw [if_neg h2] at hc
   generalize q%2=q2 at *
   refine a_<|zS<|zB 1<|zP 1 [yH [(3,yV (aw (u64 (↑j:Int)))),(4,yV (ai ↑q)),(5,yV (ai ↑q2))]] [.ae [61,52,39,27,6,5,3,0,1,2,9,7] [5,3]] [yI (a6 ((↑j:Int))),yI (yc hs),yI MX,yI (yc ha)]<|bj 61 ((↑q2:Int) == (0:Int)) bE<|zX (yH [(1,yV (ai (↑(j+1):Int))),(5,{k:=j}),(6,yV (aw (P.getD j 0))),(8,yV (aw (gP (↑(j+1):Int) (P.getD j 0) x)))]) [yB (ai (IntKind.i64.wrap ((↑j:Int)+1))=ai (↑(j+1):Int)) (dG ah ah),yR (↑j:Int),yB (j<(aj P).length) (by simp only [aA];omega),yB ((aj P)[j]?=some (aw (P.getD j 0))) (dI ah),yI (lu (↑(j+1):Int) (P.getD j 0) x)]<|aM<|ak<|zX (yH [(1,yV (ai ((↑j:Int)+1)))]) [yN ((↑j:Int)+1)] (aJ (j+1) ah ah (eK [.ae [39,27,6,5,3,0,1,2,9,7] [5,3]] [7] [] [yB (aw (gP (↑(j+1):Int) (P.getD j 0) x)=aw (dv i P (combine (↑i:Int) (cM (↑i:Int) m C 18)) (j+1))) (by rw [hc])]))
 ·have e:j=k:=ah
  subst e
  by_cases ke:dv i P (combine i (cM i m C 18)) j=r
  ·rw [if_pos ke]
   refine zE 0<|a7<|aO<|bn<|ak<|zS<|zP 1 [yH [(3,yV (ao (dv i P (combine (↑i:Int) (cM (↑i:Int) m C 18)) j != r)))]] [.ae [83,52,39,27,6,5,3,0,1,2,9,7] [5,3]] [yI (cJ (dv i P (combine (↑i:Int) (cM (↑i:Int) m C 18)) j) r)]<|bj 83 (dv i P (combine (↑i:Int) (cM (↑i:Int) m C 18)) j != r) (by simp_all)<|a_<|zq<|zR (bV)
  ·rw [if_neg ke]
   refine zE 0<|a7<|aO<|bn<|ak<|zS<|zP 1 [yH [(3,yV (ao (dv i P (combine (↑i:Int) (cM (↑i:Int) m C 18)) j != r)))]] [.ae [83,52,39,27,6,5,3,0,1,2,9,7] [5,3]] [yI (cJ (dv i P (combine (↑i:Int) (cM (↑i:Int) m C 18)) j) r)]<|du 83 (dv i P (combine (↑i:Int) (cM (↑i:Int) m C 18)) j != r) (by simp_all)<|zq<|dk (bV)
theorem CI (m:Mem) (h:List UInt8):bK Tryz.prog 111 [.agg (aH m),.ptr [db h] 0] (ao (m.name == h)):=by
 refine zO Tryz.func111 8<|zP 2 [{},yH [(3,yV (ao (m.name == h)))]] [.ae [3,2,0,1] [2]] [yI (fX m.name h)]<|zR (bV)
theorem CK (l:List Mem) (h:List UInt8) (ze:l.length≤1000000):bK Tryz.prog 110 [.sl 4 (af aH l),.lI 111 [.ptr [db h] 0]] (ai (dF l h)):=by
 have hl:(af aH l).length=l.length*4:=aF (e:=4) (fun _=>rfl) ..
 refine zO Tryz.func110 19<|zq<|zS<|zQ 1 [yH [(1,{k:=l.length})]] [yI hl]<|zB 0 (zL (fun (i:Nat)=>(⟨[(7,ai (↑l.length:Int)),(0,AV.sl 4 (af aH l)),(1,AV.lI 111 [AV.ptr [db h] 0]),(8,ai i)],[]⟩:AS)) (fun i=>(i≤l.length∧ ∀j,j<i->(l.getD j default).name≠h)) (fun i=>(l.length-i)) (0) ?_ (zW [.ae [7,0,1,8] []]) ?_)
 ·exact ⟨ah,ah⟩
 rintro i ⟨hi,gf⟩
 refine zq<|zS (zD 9 ((↑i:Int)<(↑l.length:Int)) (fun g=>?_) (fun g=>?_))
 ·have dz:i<l.length:=ah
  have hc:=CI (l.getD i default) h
  by_cases e:(l.getD i default).name=h
  ·have hf:=xJ dz gf e
   refine a_<|zS<|zB 1<|zP 2 [{},yH [(3,{k:=i}),(4,yV (AV.agg (aH (l.getD i default)))),(5,yV (ao ((l.getD i default).name == h)))]] [.ae [16,5,9,7,0,1,8] []] [yR (↑i:Int),yO (i*4<(af aH l).length),yu aH l i 0 4,yR 4,yI hc]<|du 16 ((l.getD i default).name == h) (by simp_all)<|zq<|zR<|aY<|aI<|c_<|aY<|aI (zV [yJ (↑i:Int) (dF l h) (by rw [hf])])
  ·skip
   refine a_<|zS<|zB 1<|zP 2 [{},yH [(3,{k:=i}),(4,yV (AV.agg (aH (l.getD i default)))),(5,yV (ao ((l.getD i default).name == h)))]] [.ae [16,5,9,7,0,1,8] []] [yR (↑i:Int),yO (i*4<(af aH l).length),yu aH l i 0 4,yR 4,yI hc]<|bj 16 ((l.getD i default).name == h) (by simp_all)<|zK<|aM<|ak<|zX (yH [(0,yV (ai ((↑i:Int)+1)))]) [yN ((↑i:Int)+1)] (aJ (i+1) ⟨ah,fun j hj=>by by_cases e2:j=i;(subst e2;exact e);exact gf j ah⟩ ah (zW [.ae [7,0,1,8] []]))
 ·have hf:=xH (l:=l) (h:=h) (fun j hj=>gf j ah)
  refine zE 0<|a7<|aO<|bn<|ak<|zq<|zR (zV [yJ (-1:Int) (dF l h) (by rw [hf])])
theorem nI (g:gK) (h:List UInt8) (ze:g.al.length≤1000000):bK Tryz.prog 61 [.agg (bB g),db h] (ai (dF g.al h)):=by
 refine zO Tryz.func61 9<|zP 2 [{},yH [(3,yV (ai (dF g.al h)))]] [.ae [4,3,2,0,1] [2]] [yI (CK g.al h ze)]<|zR (bV)
theorem mj (l:List Mem) (h:List UInt8) (ze:l.length≤1000000):bK Tryz.prog 64 [.sl 4 (af aH l),db h] (ai (dF l h)):=by
 have hl:(af aH l).length=l.length*4:=aF (e:=4) (fun _=>rfl) ..
 refine zO Tryz.func64 20<|zq<|zS<|zq<|zB 0 (zL (fun (i:Nat)=>(⟨[(0,AV.sl 4 (af aH l)),(1,db h),(5,ai i)],[]⟩:AS)) (fun i=>(i≤l.length∧ ∀j,j<i->(l.getD j default).name≠h)) (fun i=>(l.length-i)) (0) ?_ (zW [.ae [0,1,5] []]) ?_)
 ·exact ⟨ah,ah⟩
 rintro i ⟨hi,gf⟩
 refine zS<|zP 1 [yH [(2,{k:=l.length})]] [.ae [9,0,1,5] []] [yI hl] (zD 9 ((↑i:Int)<(↑l.length:Int)) (fun g=>?_) (fun g=>?_))
 ·have dz:i<l.length:=ah
  by_cases e:(l.getD i default).name=h
  ·have hf:=xJ dz gf e
   refine a_<|zS<|zB 1<|zP 1 [yH [(2,{k:=i}),(4,yV (db (l.getD i default).name)),(6,yV (ao ((l.getD i default).name == h)))]] [.ae [18,9,0,1,5] []] [yR (↑i:Int),yO (i*4<(af aH l).length),yA aH l i 0,yI (fX ((l.getD i default).name) h)]<|du 18 ((l.getD i default).name == h) (by simp_all)<|zq<|zR<|aY<|aI<|c_<|aY<|aI (zV [yJ (↑i:Int) (dF l h) (by rw [hf])])
  ·skip
   refine a_<|zS<|zB 1<|zP 1 [yH [(2,{k:=i}),(4,yV (db (l.getD i default).name)),(6,yV (ao ((l.getD i default).name == h)))]] [.ae [18,9,0,1,5] []] [yR (↑i:Int),yO (i*4<(af aH l).length),yA aH l i 0,yI (fX ((l.getD i default).name) h)]<|bj 18 ((l.getD i default).name == h) (by simp_all)<|zK<|aM<|ak<|zX (yH [(1,yV (ai ((↑i:Int)+1)))]) [yN ((↑i:Int)+1)] (aJ (i+1) ⟨ah,fun j hj=>by by_cases e2:j=i;(subst e2;exact e);exact gf j ah⟩ ah (zW [.ae [0,1,5] []]))
 ·have hf:=xH (l:=l) (h:=h) (fun j hj=>gf j ah)
  refine zE 0<|a7<|aO<|bn<|ak<|zq<|zR (zV [yJ (-1:Int) (dF l h) (by rw [hf])])
def Dl (l:List m0) (p:UInt64):Int:=if vr l p<l.length then (vr l p:Int) else -1
theorem pO (l:List m0) (p:UInt64) (ze:l.length≤1000000):bK Tryz.prog 112 [.sl 7 (af bc l),aw p] (ai (Dl l p)):=by
 have hl:(af bc l).length=l.length*7:=aF (e:=7) (fun _=>rfl) ..
 refine zO Tryz.func112 20<|zq<|zS<|zq<|zB 0 (zL (fun (i:Nat)=>(⟨[(0,AV.sl 7 (af bc l)),(1,aw p),(5,ai i)],[]⟩:AS)) (fun i=>(i≤l.length∧ ∀j,j<i->(l.getD j default).bR≠p)) (fun i=>(l.length-i)) (0) ?_ (zW [.ae [0,1,5] []]) ?_)
 ·exact ⟨ah,ah⟩
 rintro i ⟨hi,gf⟩
 refine zS<|zP 1 [yH [(2,{k:=l.length})]] [.ae [9,0,1,5] []] [yI hl] (zD 9 ((↑i:Int)<(↑l.length:Int)) (fun g=>?_) (fun g=>?_))
 ·have dz:i<l.length:=ah
  by_cases e:(l.getD i default).bR=p
  ·have hf:=IW dz gf e
   refine a_<|zS<|zB 1<|zP 1 [yH [(2,{k:=i}),(4,yV (aw ((l.getD i default).bR))),(6,yV (ao ((l.getD i default).bR == p)))]] [.ae [18,9,0,1,5] []] [yR (↑i:Int),yO (i*7<(af bc l).length),yA bc l i 0,yI (fo ((l.getD i default).bR) p)]<|du 18 ((l.getD i default).bR == p) fb<|zq<|zR<|aY<|aI<|c_<|aY<|aI (zV [yJ (↑i:Int) (Dl l p) (by unfold Dl;rw [hf,if_pos dz])])
  ·skip
   refine a_<|zS<|zB 1<|zP 1 [yH [(2,{k:=i}),(4,yV (aw ((l.getD i default).bR))),(6,yV (ao ((l.getD i default).bR == p)))]] [.ae [18,9,0,1,5] []] [yR (↑i:Int),yO (i*7<(af bc l).length),yA bc l i 0,yI (fo ((l.getD i default).bR) p)]<|bj 18 ((l.getD i default).bR == p) bE<|zK<|aM<|ak<|zX (yH [(1,yV (ai ((↑i:Int)+1)))]) [yN ((↑i:Int)+1)] (aJ (i+1) ⟨ah,fun j hj=>by by_cases e2:j=i;(subst e2;exact e);exact gf j ah⟩ ah (zW [.ae [0,1,5] []]))
 ·have hf:=IV (l:=l) (p:=p) (fun j hj=>gf j ah)
  refine zE 0<|a7<|aO<|bn<|ak<|zq<|zR (zV [yJ (-1:Int) (Dl l p) (by unfold Dl;rw [hf,if_neg (Nat.lt_irrefl _)])])
theorem k9 {l:List gk} {i:Nat} (h:i<l.length):List.take 4 (List.drop (i*4) (af a8 l))=a8 (l.getD i default):=jn (e:=4) (fun _=>rfl) h
theorem ui {l:List Mem} {n:List UInt8} {k:Nat} (h:dF l n=k):KI l n=l.getD k default:=by unfold KI;rw [h];rfl
def HC (l:List gk) (i:Nat):Prop:=0<i∧FA (l.getD i default).name (l.getD (i-1) default).name=true
theorem OS {g:gK} {w:UInt64} {l:List gk} {i:Nat} (h:HC l i):jV g w l i=7:=if_pos h
theorem LN {g:gK} {w:UInt64} {l:List gk} {i:Nat} (h:¬HC l i) (h2:dF g.al (l.getD i default).name<0):jV g w l i=11:=(if_neg h).trans (if_pos h2)
section
variable {g:gK} {w:UInt64} {l:List gk} {i k:Nat} (h:¬HC l i) (h2:dF g.al (l.getD i default).name=k)
include h h2
theorem GN {e:Int} (he:ku (g.al.getD k default).h (g.al.getD k default).r w (l.getD i default).leaf (l.getD i default).ct (l.getD i default).path=e) (h0:e≠0):jV g w l i=e:=by
 refine (if_neg h).trans ?_;rw [if_neg ah,ui h2,he,if_pos h0]
theorem xa (he:ku (g.al.getD k default).h (g.al.getD k default).r w (l.getD i default).leaf (l.getD i default).ct (l.getD i default).path=0):jV g w l i=if (g.al.getD k default).used&&&gA (l.getD i default).leaf≠0 then 37 else 0:=by
 refine (if_neg h).trans ?_;rw [if_neg ah,ui h2,he,if_neg ah]
end
theorem k8 {g:gK} {w:UInt64} {l:List gk} {i:Nat} (hi:i<l.length) (h0:ff (jV g w l) i=0) {e:Int} (he:jV g w l i=e) (hn:e≠0):fv g w l=e:=by
 have k2:ff (jV g w l) (i+1)=e:=by show (if _ then _ else _)=_;rw [if_neg ah,he]
 have:=ld hn k2 l.length hi
 unfold fv
 rw [this,if_pos hn]
theorem JB (g:gK) (w:UInt64) (V:List gk) (hm:g.al.length≤1000) (hv:V.length≤1000000):bK Tryz.prog 58 [.agg (bB g),.sl 4 (af a8 V),aw w] (ai (fv g w V)):=by
 have xR:(af a8 V).length=V.length*4:=aF (e:=4) (fun _=>rfl) ..
 have mb:(af aH g.al).length=g.al.length*4:=aF (e:=4) (fun _=>rfl) ..
 refine zO Tryz.func58 68<|zq<|zS<|zQ 1 [yH [(1,{k:=V.length})]] [yI xR]<|zB 0 (zL (fun (i:Nat)=>(⟨[(12,ai (↑V.length:Int)),(11,AV.sl 4 (af a8 V)),(3,AV.addr 3 0),(0,AV.agg (bB g)),(1,AV.sl 4 (af a8 V)),(2,aw w),(13,ai i)],[(3,⟨1,false,true,List.map (aD 3) (bB g)⟩)]⟩:AS)) (fun i=>(i≤V.length∧ff (jV g w V) i=0)) (fun i=>(V.length-i)) (0) ?_ (zW [.ae [12,11,3,0,1,2,13] [3]]) ?_)
 ·exact ⟨ah,rfl⟩
 rintro i ⟨hi,h0⟩
 refine zq<|zS (zD 14 ((↑i:Int)<(↑V.length:Int)) (fun q=>?_) (fun q=>?_))
 ·have dz:i<V.length:=ah
  have gh:=k9 dz
  refine a_<|zS<|zB 1<|zP 1 [yH [(1,{k:=i}),(2,yV (AV.agg (a8 (V.getD i default))))]] [.ae [7,8,14,12,11,3,0,1,2,13] [8,3]] [yR (↑i:Int),yO (i*4<(af a8 V).length),yu a8 V i 0 4,yR 4,yL 4 4] (bf.oN (fun (u:Unit)=>(⟨[(7,ai ↑i),(8,AV.addr 8 0),(14,ao (decide ((↑i:Int)<(↑V.length:Int)))),(12,ai (↑V.length:Int)),(11,AV.sl 4 (af a8 V)),(3,AV.addr 3 0),(0,AV.agg (bB g)),(1,AV.sl 4 (af a8 V)),(2,aw w),(13,ai ↑i)],[(8,⟨1,false,true,(a8 (V.getD i default))⟩),(3,⟨1,false,true,List.map (aD 8) (List.map (aD 3) (bB g))⟩)]⟩:AS)) (fun u=>(¬HC V i)) bh ?_ ?_)
  ·by_cases c6:0<i
   ·obtain ⟨k,hk⟩:∃k,k+1=i:=⟨i-1,ah⟩
    have xZ:=k9 (l:=V) (i:=k) ah
    have ek:i-1=k:=ah
    by_cases c7:FA (V.getD i default).name (V.getD k default).name=true
    ·have k1:=k8 dz h0 (OS (g:=g) (w:=w) ⟨c6,by rw [ek];exact c7⟩) ah
     refine zP 1 [{hs:=[(7,yV (ai ↑k)),(8,{k:=k}),(10,yV (db (V.getD k default).name))],T:=11}] [.ae [30,7,8,14,12,11,3,0,1,2,13] [8,3]] (yM 5 (yT ((↑i:Int)>0))++ [yB (ai (IntKind.i64.wrap ((↑i:Int)-1))=ai ↑k) (congrArg (fun n=>AV.val (.int .i64 n)) (by rw [IntKind.wrap_i64];omega)),yT ((↑i:Int)>0),yR (↑k:Int),yO (k*4<(af a8 V).length)]++yM 2 (yT ((↑i:Int)>0))++ [yA a8 V k 0]++yM 2 (yT ((↑i:Int)>0)))<|du 30 (Op.bytesLess (ByteArray.mk (V.getD i default).name.toArray).toList (ByteArray.mk (V.getD k default).name.toArray).toList || (ByteArray.mk (V.getD i default).name.toArray).toList == (ByteArray.mk (V.getD k default).name.toArray).toList) (by assumption)<|zq<|dk<|aY<|aI<|c_<|aY<|aI (zV [yJ 7 (fv g w V) (by rw [k1])])
    ·have c9:FA (V.getD i default).name (V.getD k default).name=false:=by simpa using c7
     refine zP 1 [{hs:=[(7,yV (ai ↑k)),(8,{k:=k}),(10,yV (db (V.getD k default).name))],T:=11}] [.ae [30,7,8,14,12,11,3,0,1,2,13] [8,3]] (yM 5 (yT ((↑i:Int)>0))++ [yB (ai (IntKind.i64.wrap ((↑i:Int)-1))=ai ↑k) (congrArg (fun n=>AV.val (.int .i64 n)) (by rw [IntKind.wrap_i64];omega)),yT ((↑i:Int)>0),yR (↑k:Int),yO (k*4<(af a8 V).length)]++yM 2 (yT ((↑i:Int)>0))++ [yA a8 V k 0]++yM 2 (yT ((↑i:Int)>0)))<|bj 30 (Op.bytesLess (ByteArray.mk (V.getD i default).name.toArray).toList (ByteArray.mk (V.getD k default).name.toArray).toList || (ByteArray.mk (V.getD i default).name.toArray).toList == (ByteArray.mk (V.getD k default).name.toArray).toList) (by assumption)<|a_ (⟨(),(fun q=>by have:=q.2;rw [ek] at this;exact c7 this),(zW [.ae [7,8,14,12,11,3,0,1,2,13] [8,3]])⟩)
   ·skip
    refine zP 1 [{hs:=[(3,{g:=false}),(4,{g:=false}),(5,{g:=false}),(6,{g:=false}),(7,{g:=false}),(8,{g:=false}),(9,{g:=false}),(10,{g:=false}),(11,{g:=false}),(12,{b:=false})],T:=11}] [.ae [30,7,8,14,12,11,3,0,1,2,13] [8,3]] (yM 10 (yF ((↑i:Int)>0)))<|zF 30<|a_ (⟨(),(fun q=>c6 q.1),(zW [.ae [7,8,14,12,11,3,0,1,2,13] [8,3]])⟩)
  intro u hu
  have m7:=nI g (V.getD i default).name ah
  rcases gF g.al (V.getD i default).name with hk|⟨k,hk,iG,PQ⟩
  ·have k1:=k8 dz h0 (LN (g:=g) (w:=w) hu ah) ah
   rw [hk] at m7
   refine zP 1 [yH [(3,yV (ai (-1:Int)))]] [.ae [9,7,8,14,12,11,3,0,1,2,13] [8,3]] [yI m7]<|zS<|zq<|gT 36 ((-1:Int)<0)<|zq<|dk<|aY<|aI<|c_<|aY<|aI (zV [yJ 11 (fv g w V) (by rw [k1])])
  have RU:=mu iG
  rw [hk] at m7
  have KU:=BK (g.al.getD k default).h (g.al.getD k default).r w (V.getD i default).leaf (V.getD i default).ct (V.getD i default).path
  by_cases cv:ku (g.al.getD k default).h (g.al.getD k default).r w (V.getD i default).leaf (V.getD i default).ct (V.getD i default).path=0
  case neg =>
   have k1:=k8 dz h0 (GN hu hk rfl cv) cv
   refine zP 1 [yH [(3,yV (ai ↑k))]] [.ae [9,7,8,14,12,11,3,0,1,2,13] [8,3]] [yI m7]<|zS<|zQ 1 [yH [(1,yV (ao false))]] [yR (ao false)]<|zF 36<|a_<|zS<|zP 2 [{hs:=[(3,{k:=k}),(5,yV (AV.agg [ai ((g.al.getD k default).h),aw ((g.al.getD k default).r)])),(9,yV (ai (ku (g.al.getD k default).h (g.al.getD k default).r w (V.getD i default).leaf (V.getD i default).ct (V.getD i default).path)))],T:=9},{}] [.ae [48,10,36,9,7,8,14,12,11,3,0,1,2,13] [8,3]] [yR (↑k:Int),yO (k*4<(af aH g.al).length),yu aH g.al k 1 2,yR 2,yI KU]<|du 48 (ku (g.al.getD k default).h (g.al.getD k default).r w (V.getD i default).leaf (V.getD i default).ct (V.getD i default).path != (0:Int)) (by simp_all)<|zP 1 [{}] [.ae [6,48,10,36,9,7,8,14,12,11,3,0,1,2,13] [8,3]] []<|dk<|aY<|aI<|c_<|aY<|aI (zV [yJ (ku (g.al.getD k default).h (g.al.getD k default).r w (V.getD i default).leaf (V.getD i default).ct (V.getD i default).path) (fv g w V) (by rw [k1])])
  have K0:=tB cv
  have hr:=xa hu hk cv
  rw [cv] at KU
  by_cases cu:(g.al.getD k default).used&&&gA (V.getD i default).leaf=0
  ·rw [if_neg (fun q=>q cu)] at hr
   refine zP 1 [yH [(3,yV (ai ↑k))]] [.ae [9,7,8,14,12,11,3,0,1,2,13] [8,3]] [yI m7]<|zS<|zq<|dp 36 ((↑k:Int)<0)<|a_<|zS<|zP 2 [{hs:=[(3,{k:=k}),(5,yV (AV.agg [ai ((g.al.getD k default).h),aw ((g.al.getD k default).r)])),(9,yV (ai 0))],T:=9},{}] [.ae [48,10,36,9,7,8,14,12,11,3,0,1,2,13] [8,3]] [yR (↑k:Int),yO (k*4<(af aH g.al).length),yu aH g.al k 1 2,yR 2,yI KU]<|zF 48<|a_<|zP 1 [{hs:=[(3,{k:=k}),(5,yV (aw ((g.al.getD k default).used))),(9,yV (aw (gA (V.getD i default).leaf))),(10,yV (aw ((g.al.getD k default).used&&&gA (V.getD i default).leaf))),(11,yV (ao false))],T:=10}] [.ae [61,48,10,36,9,7,8,14,12,11,3,0,1,2,13] [8,3]] [yR (↑k:Int),yO (k*4<(af aH g.al).length),yA aH g.al k 3,yB (AV.val (Value.int .u64 (IntKind.u64.wrap ((1:Int)*(2:Int)^min (V.getD i default).leaf.toNat IntKind.u64.bits)))=aw (gA (V.getD i default).leaf)) (jB 1 _ K0.1 ah),yO ((0:Int)≤(V.getD i default).leaf),yI (iY ((g.al.getD k default).used) (gA (V.getD i default).leaf)),yB (ao (wv ((g.al.getD k default).used&&&gA (V.getD i default).leaf) != (0:Int))=ao false) (by rw [cu];rfl)]<|zF 61<|zK<|aM<|ak<|zX (yH [(0,yV (ai ((↑i:Int)+1)))]) [yN ((↑i:Int)+1)] (aJ (i+1) ⟨ah,by show (if _ then _ else _)=_;rw [if_neg ah,hr]⟩ ah (zW [.ae [12,11,3,0,1,2,13] [3]]))
  ·rw [if_pos cu] at hr
   have k1:=k8 dz h0 hr ah
   refine zP 1 [yH [(3,yV (ai ↑k))]] [.ae [9,7,8,14,12,11,3,0,1,2,13] [8,3]] [yI m7]<|zS<|zq<|dp 36 ((↑k:Int)<0)<|a_<|zS<|zP 2 [{hs:=[(3,{k:=k}),(5,yV (AV.agg [ai ((g.al.getD k default).h),aw ((g.al.getD k default).r)])),(9,yV (ai 0))],T:=9},{}] [.ae [48,10,36,9,7,8,14,12,11,3,0,1,2,13] [8,3]] [yR (↑k:Int),yO (k*4<(af aH g.al).length),yu aH g.al k 1 2,yR 2,yI KU]<|zF 48<|a_<|zP 1 [{hs:=[(3,{k:=k}),(5,yV (aw ((g.al.getD k default).used))),(9,yV (aw (gA (V.getD i default).leaf))),(10,yV (aw ((g.al.getD k default).used&&&gA (V.getD i default).leaf))),(11,yV (ao ((g.al.getD k default).used&&&gA (V.getD i default).leaf != 0)))],T:=10}] [.ae [61,48,10,36,9,7,8,14,12,11,3,0,1,2,13] [8,3]] [yR (↑k:Int),yO (k*4<(af aH g.al).length),yA aH g.al k 3,yB (AV.val (Value.int .u64 (IntKind.u64.wrap ((1:Int)*(2:Int)^min (V.getD i default).leaf.toNat IntKind.u64.bits)))=aw (gA (V.getD i default).leaf)) (jB 1 _ K0.1 ah),yO ((0:Int)≤(V.getD i default).leaf),yI (iY ((g.al.getD k default).used) (gA (V.getD i default).leaf)),yI (cJ ((g.al.getD k default).used&&&gA (V.getD i default).leaf) 0)]<|du 61 ((g.al.getD k default).used&&&gA (V.getD i default).leaf != 0) (by simp_all)<|zq<|zR<|aY<|aI<|c_<|aY<|aI (zV [yJ 37 (fv g w V) (by rw [k1])])
 ·have e:i=V.length:=ah
  subst e
  refine zE 0<|a7<|aO<|bn<|ak<|zS<|zP 1 [yH [(1,{k:=V.length})]] [.ae [67,14,12,11,3,0,1,2,13] [3]] [yI xR] (zD 67 ((↑V.length:Int)<g.bt) (fun q2=>?_) (fun q2=>?_))
  ·skip
   refine zq<|dk (zV [yJ 41 (fv g w V) (by unfold fv;rw [if_neg ah,if_pos ah])])
  ·skip
   refine a_<|zq<|zR (zV [yJ 0 (fv g w V) (by unfold fv;rw [if_neg ah,if_neg ah])])
theorem xn (g:gK) (w:UInt64) (V:List gk) (hm:g.al.length≤1000) (hv:V.length≤1000000):bK Tryz.prog 62 [.agg (bB g),.sl 4 (af a8 V),aw w] (ai (fv g w V)):=by
 have xR:(af a8 V).length=V.length*4:=aF (e:=4) (fun _=>rfl) ..
 have mb:(af aH g.al).length=g.al.length*4:=aF (e:=4) (fun _=>rfl) ..
 refine zO Tryz.func62 79<|zq<|zS<|zq<|zB 0 (zL (fun (i:Nat)=>(⟨[(3,AV.addr 3 0),(0,AV.agg (bB g)),(1,AV.sl 4 (af a8 V)),(2,aw w),(7,ai i)],[(3,⟨1,false,true,List.map (aD 3) (bB g)⟩)]⟩:AS)) (fun i=>(i≤V.length∧ff (jV g w V) i=0)) (fun i=>(V.length-i)) (0) ?_ (zW [.ae [3,0,1,2,7] [3]]) ?_)
 ·exact ⟨ah,rfl⟩
 rintro i ⟨hi,h0⟩
 refine zS<|zP 1 [yH [(2,{k:=V.length})]] [.ae [13,3,0,1,2,7] [3]] [yI xR] (zD 13 ((↑i:Int)<(↑V.length:Int)) (fun q=>?_) (fun q=>?_))
 ·have dz:i<V.length:=ah
  have gh:=k9 dz
  refine a_<|zS<|zB 1 (bf.oN (fun (u:Unit)=>(⟨[(13,ao (decide ((↑i:Int)<(↑V.length:Int)))),(3,AV.addr 3 0),(0,AV.agg (bB g)),(1,AV.sl 4 (af a8 V)),(2,aw w),(7,ai ↑i)],[(3,⟨1,false,true,List.map (aD 3) (bB g)⟩)]⟩:AS)) (fun u=>(¬HC V i)) bh ?_ ?_)
  ·by_cases c6:0<i
   ·obtain ⟨k,hk⟩:∃k,k+1=i:=⟨i-1,ah⟩
    have xZ:=k9 (l:=V) (i:=k) ah
    have ek:i-1=k:=ah
    by_cases c7:FA (V.getD i default).name (V.getD k default).name=true
    ·have k1:=k8 dz h0 (OS (g:=g) (w:=w) ⟨c6,by rw [ek];exact c7⟩) ah
     refine zP 1 [{hs:=[(5,{k:=i}),(7,yV (db (V.getD i default).name)),(10,yV (ai ↑k)),(11,{k:=k}),(13,yV (db (V.getD k default).name))],T:=14}] [.ae [31,13,3,0,1,2,7] [3]] (yM 3 (yT ((↑i:Int)>0))++ [yR (↑i:Int),yO (i*4<(af a8 V).length)]++yM 2 (yT ((↑i:Int)>0))++ [yA a8 V i 0]++yM 3 (yT ((↑i:Int)>0))++ [yB (ai (IntKind.i64.wrap ((↑i:Int)-1))=ai ↑k) (congrArg (fun n=>AV.val (.int .i64 n)) (by rw [IntKind.wrap_i64];omega)),yT ((↑i:Int)>0),yR (↑k:Int),yO (k*4<(af a8 V).length)]++yM 2 (yT ((↑i:Int)>0))++ [yA a8 V k 0]++yM 2 (yT ((↑i:Int)>0)))<|du 31 (Op.bytesLess (ByteArray.mk (V.getD i default).name.toArray).toList (ByteArray.mk (V.getD k default).name.toArray).toList || (ByteArray.mk (V.getD i default).name.toArray).toList == (ByteArray.mk (V.getD k default).name.toArray).toList) (by assumption)<|zq<|dk<|aY<|aI<|c_<|aY<|aI (zV [yJ 7 (fv g w V) (by rw [k1])])
    ·have c9:FA (V.getD i default).name (V.getD k default).name=false:=by simpa using c7
     refine zP 1 [{hs:=[(5,{k:=i}),(7,yV (db (V.getD i default).name)),(10,yV (ai ↑k)),(11,{k:=k}),(13,yV (db (V.getD k default).name))],T:=14}] [.ae [31,13,3,0,1,2,7] [3]] (yM 3 (yT ((↑i:Int)>0))++ [yR (↑i:Int),yO (i*4<(af a8 V).length)]++yM 2 (yT ((↑i:Int)>0))++ [yA a8 V i 0]++yM 3 (yT ((↑i:Int)>0))++ [yB (ai (IntKind.i64.wrap ((↑i:Int)-1))=ai ↑k) (congrArg (fun n=>AV.val (.int .i64 n)) (by rw [IntKind.wrap_i64];omega)),yT ((↑i:Int)>0),yR (↑k:Int),yO (k*4<(af a8 V).length)]++yM 2 (yT ((↑i:Int)>0))++ [yA a8 V k 0]++yM 2 (yT ((↑i:Int)>0)))<|bj 31 (Op.bytesLess (ByteArray.mk (V.getD i default).name.toArray).toList (ByteArray.mk (V.getD k default).name.toArray).toList || (ByteArray.mk (V.getD i default).name.toArray).toList == (ByteArray.mk (V.getD k default).name.toArray).toList) (by assumption)<|a_ (⟨(),(fun q=>by have:=q.2;rw [ek] at this;exact c7 this),(zW [.ae [13,3,0,1,2,7] [3]])⟩)
   ·skip
    refine zP 1 [{hs:=[(3,{g:=false}),(4,{g:=false}),(5,{g:=false}),(6,{g:=false}),(7,{g:=false}),(8,{g:=false}),(9,{g:=false}),(10,{g:=false}),(11,{g:=false}),(12,{g:=false}),(13,{g:=false}),(14,{g:=false}),(15,{b:=false})],T:=14}] [.ae [31,13,3,0,1,2,7] [3]] (yM 13 (yF ((↑i:Int)>0)))<|zF 31<|a_ (⟨(),(fun q=>c6 q.1),(zW [.ae [13,3,0,1,2,7] [3]])⟩)
  intro u hu
  have m7:=mj g.al (V.getD i default).name ah
  rcases gF g.al (V.getD i default).name with hk|⟨k,hk,iG,PQ⟩
  ·have k1:=k8 dz h0 (LN (g:=g) (w:=w) hu ah) ah
   rw [hk] at m7
   refine zP 1 [{hs:=[(4,{k:=i}),(6,yV (db (V.getD i default).name)),(7,yV (ai (-1:Int)))],T:=7}] [.ae [8,13,3,0,1,2,7] [3]] [yR (↑i:Int),yO (i*4<(af a8 V).length),yA a8 V i 0,yI m7]<|zS<|zq<|gT 41 ((-1:Int)<0)<|zq<|dk<|aY<|aI<|c_<|aY<|aI (zV [yJ 11 (fv g w V) (by rw [k1])])
  have RU:=mu iG
  rw [hk] at m7
  have KU:=vy (g.al.getD k default).h (g.al.getD k default).r w (V.getD i default).leaf (V.getD i default).ct (V.getD i default).path
  by_cases cv:ku (g.al.getD k default).h (g.al.getD k default).r w (V.getD i default).leaf (V.getD i default).ct (V.getD i default).path=0
  case neg =>
   have k1:=k8 dz h0 (GN hu hk rfl cv) cv
   refine zP 1 [{hs:=[(4,{k:=i}),(6,yV (db (V.getD i default).name)),(7,yV (ai ↑k))],T:=7}] [.ae [8,13,3,0,1,2,7] [3]] [yR (↑i:Int),yO (i*4<(af a8 V).length),yA a8 V i 0,yI m7]<|zS<|zQ 1 [yH [(1,yV (ao false))]] [yR (ao false)]<|zF 41<|a_<|zS<|zP 2 [{hs:=[(3,{k:=k}),(5,yV (AV.agg [ai ((g.al.getD k default).h),aw ((g.al.getD k default).r)])),(9,{k:=i}),(11,yV (AV.agg [ai ((V.getD i default).leaf),AV.sl 1 (aj (V.getD i default).ct),AV.sl 1 (aj (V.getD i default).path)])),(12,yV (ai (ku (g.al.getD k default).h (g.al.getD k default).r w (V.getD i default).leaf (V.getD i default).ct (V.getD i default).path)))],T:=12},{}] [.ae [56,9,41,8,13,3,0,1,2,7] [3]] [yR (↑k:Int),yO (k*4<(af aH g.al).length),yu aH g.al k 1 2,yR 2,yR (↑i:Int),yO (i*4<(af a8 V).length),yu a8 V i 1 3,yR 3,yI KU]<|du 56 (ku (g.al.getD k default).h (g.al.getD k default).r w (V.getD i default).leaf (V.getD i default).ct (V.getD i default).path != (0:Int)) (by simp_all)<|zP 1 [{}] [.ae [6,56,9,41,8,13,3,0,1,2,7] [3]] []<|dk<|aY<|aI<|c_<|aY<|aI (zV [yJ (ku (g.al.getD k default).h (g.al.getD k default).r w (V.getD i default).leaf (V.getD i default).ct (V.getD i default).path) (fv g w V) (by rw [k1])])
  have K0:=tB cv
  have hr:=xa hu hk cv
  rw [cv] at KU
  obtain ⟨z,hz,Rr⟩:∃z:Nat,(V.getD i default).leaf=z∧z<16:=⟨(V.getD i default).leaf.toNat,ah,ah⟩
  have Pl:IntKind.u64.wrap (V.getD i default).leaf=(z:Int):=by rw [hz,IntKind.wrap_u64];omega
  have GF:=N6 (g.al.getD k default).used z ah
  have Ul:gA (V.getD i default).leaf=(1:UInt64)<<<UInt64.ofNat z:=by unfold gA;rw [hz];rfl
  rw [Ul] at hr
  by_cases cu:(g.al.getD k default).used&&&((1:UInt64)<<<UInt64.ofNat z)=0
  ·rw [if_neg (fun q=>q cu)] at hr
   have cs:((((g.al.getD k default).used>>>UInt64.ofNat z)&&&1) == 1)=false:=beq_eq_false_iff_ne.2 fun q=>GF.1 q cu
   refine zP 1 [{hs:=[(4,{k:=i}),(6,yV (db (V.getD i default).name)),(7,yV (ai ↑k))],T:=7}] [.ae [8,13,3,0,1,2,7] [3]] [yR (↑i:Int),yO (i*4<(af a8 V).length),yA a8 V i 0,yI m7]<|zS<|zq<|dp 41 ((↑k:Int)<0)<|a_<|zS<|zP 2 [{hs:=[(3,{k:=k}),(5,yV (AV.agg [ai ((g.al.getD k default).h),aw ((g.al.getD k default).r)])),(9,{k:=i}),(11,yV (AV.agg [ai ((V.getD i default).leaf),AV.sl 1 (aj (V.getD i default).ct),AV.sl 1 (aj (V.getD i default).path)])),(12,yV (ai 0))],T:=12},{}] [.ae [56,9,41,8,13,3,0,1,2,7] [3]] [yR (↑k:Int),yO (k*4<(af aH g.al).length),yu aH g.al k 1 2,yR 2,yR (↑i:Int),yO (i*4<(af a8 V).length),yu a8 V i 1 3,yR 3,yI KU]<|zF 56<|a_<|zP 1 [{hs:=[(3,{k:=k}),(5,yV (aw ((g.al.getD k default).used))),(8,{k:=i}),(11,yV (ai ((V.getD i default).leaf))),(12,yV (AV.val (Value.int .u64 (↑z:Int)))),(13,yV (aw ((g.al.getD k default).used>>>UInt64.ofNat z))),(14,yV (aw ((g.al.getD k default).used>>>UInt64.ofNat z&&&(1:UInt64)))),(15,yV (ao ((g.al.getD k default).used>>>UInt64.ofNat z&&&(1:UInt64) == 1)))],T:=13}] [.ae [73,56,9,41,8,13,3,0,1,2,7] [3]] [yR (↑k:Int),yO (k*4<(af aH g.al).length),yA aH g.al k 3,yR (↑i:Int),yO (i*4<(af a8 V).length),yA a8 V i 1,yI (yd Pl),yI (fj ((g.al.getD k default).used) ((↑z:Int)) ah ah),yO ((0:Int)≤(↑z:Int)),yI (iY ((g.al.getD k default).used>>>UInt64.ofNat z) 1),yI (fo ((g.al.getD k default).used>>>UInt64.ofNat z&&&(1:UInt64)) 1)]<|bj 73 ((g.al.getD k default).used>>>UInt64.ofNat z&&&(1:UInt64) == 1) (by assumption)<|zK<|aM<|ak<|zX (yH [(1,yV (ai ((↑i:Int)+1)))]) [yN ((↑i:Int)+1)] (aJ (i+1) ⟨ah,by show (if _ then _ else _)=_;rw [if_neg ah,hr]⟩ ah (zW [.ae [3,0,1,2,7] [3]]))
  ·rw [if_pos cu] at hr
   have k1:=k8 dz h0 hr ah
   have cs:((((g.al.getD k default).used>>>UInt64.ofNat z)&&&1) == 1)=true:=beq_iff_eq.2 (GF.2 cu)
   refine zP 1 [{hs:=[(4,{k:=i}),(6,yV (db (V.getD i default).name)),(7,yV (ai ↑k))],T:=7}] [.ae [8,13,3,0,1,2,7] [3]] [yR (↑i:Int),yO (i*4<(af a8 V).length),yA a8 V i 0,yI m7]<|zS<|zq<|dp 41 ((↑k:Int)<0)<|a_<|zS<|zP 2 [{hs:=[(3,{k:=k}),(5,yV (AV.agg [ai ((g.al.getD k default).h),aw ((g.al.getD k default).r)])),(9,{k:=i}),(11,yV (AV.agg [ai ((V.getD i default).leaf),AV.sl 1 (aj (V.getD i default).ct),AV.sl 1 (aj (V.getD i default).path)])),(12,yV (ai 0))],T:=12},{}] [.ae [56,9,41,8,13,3,0,1,2,7] [3]] [yR (↑k:Int),yO (k*4<(af aH g.al).length),yu aH g.al k 1 2,yR 2,yR (↑i:Int),yO (i*4<(af a8 V).length),yu a8 V i 1 3,yR 3,yI KU]<|zF 56<|a_<|zP 1 [{hs:=[(3,{k:=k}),(5,yV (aw ((g.al.getD k default).used))),(8,{k:=i}),(11,yV (ai ((V.getD i default).leaf))),(12,yV (AV.val (Value.int .u64 (↑z:Int)))),(13,yV (aw ((g.al.getD k default).used>>>UInt64.ofNat z))),(14,yV (aw ((g.al.getD k default).used>>>UInt64.ofNat z&&&(1:UInt64)))),(15,yV (ao ((g.al.getD k default).used>>>UInt64.ofNat z&&&(1:UInt64) == 1)))],T:=13}] [.ae [73,56,9,41,8,13,3,0,1,2,7] [3]] [yR (↑k:Int),yO (k*4<(af aH g.al).length),yA aH g.al k 3,yR (↑i:Int),yO (i*4<(af a8 V).length),yA a8 V i 1,yI (yd Pl),yI (fj ((g.al.getD k default).used) ((↑z:Int)) ah ah),yO ((0:Int)≤(↑z:Int)),yI (iY ((g.al.getD k default).used>>>UInt64.ofNat z) 1),yI (fo ((g.al.getD k default).used>>>UInt64.ofNat z&&&(1:UInt64)) 1)]<|du 73 ((g.al.getD k default).used>>>UInt64.ofNat z&&&(1:UInt64) == 1) (by assumption)<|zq<|zR<|aY<|aI<|c_<|aY<|aI (zV [yJ 37 (fv g w V) (by rw [k1])])
 ·have e:i=V.length:=ah
  subst e
  refine zE 0<|a7<|aO<|bn<|ak<|zS<|zP 1 [yH [(1,{k:=V.length})]] [.ae [78,13,3,0,1,2,7] [3]] [yI xR] (zD 78 ((↑V.length:Int)<g.bt) (fun q2=>?_) (fun q2=>?_))
  ·skip
   refine zq<|dk (zV [yJ 41 (fv g w V) (by unfold fv;rw [if_neg ah,if_pos ah])])
  ·skip
   refine a_<|zq<|zR (zV [yJ 0 (fv g w V) (by unfold fv;rw [if_neg ah,if_neg ah])])
end Go.Proofs.YtjgbhhnghedgdaaGreatDoor
