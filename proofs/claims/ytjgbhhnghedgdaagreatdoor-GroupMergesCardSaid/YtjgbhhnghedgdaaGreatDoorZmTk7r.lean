import Derived.Test.YtjgbhhnghedgdaaGreatDoorZmGrB3
set_option linter.all false
namespace Go.Proofs.YtjgbhhnghedgdaaGreatDoor
open Go.RowKit
set_option maxRecDepth 100000
set_option maxHeartbeats 4000000
theorem ug (leaf:Int) (m:UInt64) (s:List UInt64):bC Tryz.prog 114 [ai leaf,aw m,.sl 1 (aj s)] (.bk [aw (oH leaf m s),ai (lD s)]):=by
 by_cases hs:s.length=18
 case neg =>
  have e1:oH leaf m s=0:=if_neg hs
  have e2:lD s=4:=if_neg hs
  refine zO Tryz.func114 37<|zq<|zS<|zP 1 [yH [(1,{k:=s.length})]] [.aa [13,7,6,0,1,2] []] [yI (aC s)]<|dm 13 ((↑s.length:Int) != (18:Int)) (by simp;omega)<|zq<|dd (zV [yK 0 (wv (oH leaf m s)) (by rw [e1];rfl),yJ 4 (lD s) (by rw [e2])])
 have e1:oH leaf m s=combine leaf (cO leaf m s 18):=if_pos hs
 have e2:lD s=0:=if_pos hs
 have hd:=nW m
 refine zO Tryz.func114 37<|zq<|zS<|zP 1 [yH [(1,{k:=s.length})]] [.aa [13,7,6,0,1,2] []] [yI (aC s)]<|bj 13 ((↑s.length:Int) != (18:Int)) (by simp_all)<|aW<|zQ 2 [yH [(1,yV (AV.own 1 (au (ck m))))],{}] [yI (m0 m),yB (lr (au (ck m))) (wI _)]<|zS<|zq<|zB 0 (zL (fun (k:Nat)=>(⟨[(8,AV.ref 15),(13,ao ((↑s.length:Int) != (18:Int))),(7,ai 0),(6,cN),(0,ai leaf),(1,aw m),(2,AV.sl 1 (aj s)),(10,ai k),(9,AV.ref 31)],[(15,⟨1,true,false,au (ck m)⟩),(31,⟨1,true,false,aj (cO leaf m s k)⟩)]⟩:AS)) (fun k=>(k≤18)) (fun k=>(18-k)) (0) ?_ (zW [.nil 9 31 1,.aa [8,13,7,6,0,1,2,10,9] [15,31]]) ?_)
 ·omega
 intro k hk
 have hl:=AY leaf m s k
 refine zS<|zq (zD 17 ((↑k:Int)<18) (fun h=>?_) (fun h=>?_))
 ·skip
  refine aW<|zS<|zB 1<|zX ({hs:=[(5,{k:=k}),(6,yV (ai ((ck m).getD k (0:Int)))),(9,{k:=k}),(10,yV (aw (s.getD k 0))),(11,yV (aw (run leaf (↑k:Int) ((ck m).getD k (0:Int)) (15:Int) (s.getD k 0)))),(12,yV (AV.arr (aj [run leaf (↑k:Int) ((ck m).getD k (0:Int)) (15:Int) (s.getD k 0)]))),(13,yV (AV.arr (aj (cO leaf m s k++ [run leaf (↑k:Int) ((ck m).getD k (0:Int)) (15:Int) (s.getD k 0)]))))],T:=13}) [yR (↑k:Int),yO (k<18),yB ((au (ck m))[k]?=some (ai ((ck m).getD k (0:Int)))) (l5 ah),yR (↑k:Int),yB (k<(aj s).length) (by simp only [aC];omega),yB ((aj s)[k]?=some (aw (s.getD k 0))) (dK ah),yI (pg leaf ((↑k:Int)) ((ck m).getD k (0:Int)) ((15:Int)) (s.getD k 0)),yR [aw (run leaf (↑k:Int) ((ck m).getD k (0:Int)) (15:Int) (s.getD k 0))],yB (aj (cO leaf m s k)++aj [run leaf (↑k:Int) ((ck m).getD k (0:Int)) (15:Int) (s.getD k 0)]=aj (cO leaf m s k++ [run leaf (↑k:Int) ((ck m).getD k (0:Int)) (15:Int) (s.getD k 0)])) (je _ _),yB (((aj (cO leaf m s k)).length+1)*8≤140737488355328) (by simp only [aC];omega)]<|aM<|ak<|zX (yH [(1,yV (ai ((↑k:Int)+1)))]) [yN ((↑k:Int)+1)] (aH (k+1) ah ah (eu [.vK 33 31,.aa [8,13,7,6,0,1,2,10,9] [15,31]] [] [31] [yB (aj (cO leaf m s k++ [run leaf (↑k:Int) ((ck m).getD k (0:Int)) (15:Int) (s.getD k 0)])=aj (cO leaf m s (k+1))) (congrArg aj (FR leaf m s k).symm)]))
 ·have e:k=18:=ah
  subst e
  refine zE 0<|aS<|aK<|bg<|ak<|zP 1 [yH [(2,yV (aw (combine leaf (cO leaf m s 18))))]] [.aa [7,6,17,8,13,0,1,2,10,9] [15,31]] [yI (si leaf (cO leaf m s 18) (by assumption))]<|zR (zV [yK (wv (combine leaf (cO leaf m s 18))) (wv (oH leaf m s)) (by rw [e1]),yJ 0 (lD s) (by rw [e2])])
theorem vW (h:Int) (r m:UInt64) (leaf:Int) (C P:List UInt64):bC Tryz.prog 69 [.agg [ai h,aw r],aw m,.agg [ai leaf,.sl 1 (aj C),.sl 1 (aj P)]] (ai (kA h r m leaf C P)):=by
 by_cases fa:i7 h leaf
 ·have e1:kA h r m leaf C P=9:=if_pos fa
  rw [e1]
  unfold i7 at fa
  by_cases hb:bB h
  ·refine zO Tryz.func69 84<|zq<|zS<|zP 1 [yH [(2,yV (ao (!decide (bB h))))]] [.aa [27,6,5,3,0,1,2] [5,3]] ([yI (cm h)]++yM 4 (yS ((!!decide (bB h))=true))++yM 8 (yR true))<|zT 27<|zq<|dd (bL)
  have rF:0≤h∧h≤4:=by unfold bB at hb;omega
  obtain ⟨k,rfl⟩:=Int.eq_ofNat_of_zero_le rF.1
  rw [Int.toNat_natCast] at fa
  have hk:k≤4:=ah
  by_cases dk:leaf<0
  ·refine zO Tryz.func69 84<|zq<|zS<|zP 1 [yH ([(2,yV (ao (!decide (bB (↑k:Int))))),(8,{b:=false})]++yg [5,6,7])] [.aa [27,6,5,3,0,1,2] [5,3]] ([yI (cm ((↑k:Int)))]++yM 4 (yS ((!!decide (bB (↑k:Int)))=false))++yM 8 (yT (leaf<0)))<|zT 27<|zq<|dd (bL)
  have uW:((2^k:Nat):Int)≤leaf:=by rcases fa with h|h|h<;>first|exact absurd h hb|exact absurd h dk|exact h
  have hp:2^k≤16:=Nat.pow_le_pow_right (by decide) (by omega:k≤4)
  have C8:IntKind.i64.wrap (1*2^min (wv (u64 (k:Int))).toNat IntKind.i64.bits)=((2^k:Nat):Int):=by
   rcases (ah:k=0∨k=1∨k=2∨k=3∨k=4) with rfl|rfl|rfl|rfl|rfl<;>decide +kernel
  have Ko:(0:Int)≤wv (u64 (k:Int)):=Int.natCast_nonneg _
  generalize 2^k=p2 at *
  refine zO Tryz.func69 84<|zq<|zS<|zP 1 [yH ([(2,yV (ao (!decide (bB (↑k:Int))))),(8,{b:=false}),(14,{av:=some (aw (u64 (↑k:Int))),g:=false}),(15,{av:=some (ai ↑p2),g:=false}),(17,{b:=false})]++yg [5,6,7,10,11,12,13,16])] [.aa [27,6,5,3,0,1,2] [5,3]] ([yI (cm ((↑k:Int)))]++yM 4 (yS ((!!decide (bB (↑k:Int)))=false))++yM 5 (yF (leaf<0))++ [yI (ba ((↑k:Int))),yF (leaf<0),yI (yc C8),yI Ko]++yM 2 (yF (leaf<0)))<|gN 27 (leaf≥(↑p2:Int))<|zq<|dd (bL)
 have hv:kA h r m leaf C P=if C.length≠18∨(P.length:Int)≠h then 4 else if dv leaf.toNat P (combine leaf (cO leaf m C 18)) h.toNat=r then 0 else 15:=if_neg fa
 unfold i7 bB at fa
 have rF:0≤h∧h≤4∧0≤leaf:=ah
 obtain ⟨k,rfl⟩:=Int.eq_ofNat_of_zero_le rF.1
 obtain ⟨i,rfl⟩:=Int.eq_ofNat_of_zero_le rF.2.2
 rw [Int.toNat_natCast] at fa
 rw [Int.toNat_natCast,Int.toNat_natCast] at hv
 have hk:k≤4:=ah
 have hb:¬bB (k:Int):=by unfold bB;omega
 have ho:¬((i:Int)<0∨((2^k:Nat):Int)≤i):=ah
 have hp:2^k≤16:=Nat.pow_le_pow_right (by decide) hk
 have C8:IntKind.i64.wrap (1*2^min (wv (u64 (k:Int))).toNat IntKind.i64.bits)=((2^k:Nat):Int):=by
  rcases (ah:k=0∨k=1∨k=2∨k=3∨k=4) with rfl|rfl|rfl|rfl|rfl<;>decide +kernel
 have Ko:(0:Int)≤wv (u64 (k:Int)):=Int.natCast_nonneg _
 rw [hv]
 by_cases hC:C.length=18
 case neg =>
  rw [if_pos (.inl hC)]
  refine zO Tryz.func69 84<|zq<|zS<|zP 1 [yH ([(2,yV (ao (!decide (bB (↑k:Int))))),(8,{b:=false}),(14,{av:=some (aw (u64 (↑k:Int))),g:=false}),(15,{av:=some (ai (↑((2:Nat)^k):Int)),g:=false}),(17,{b:=false})]++yg [5,6,7,10,11,12,13,16])] [.aa [27,6,5,3,0,1,2] [5,3]] ([yI (cm ((↑k:Int)))]++yM 4 (yS ((!!decide (bB (↑k:Int)))=false))++yM 5 (yR false)++ [yI (ba ((↑k:Int))),yR false,yI (yc C8),yI Ko,yR false,yR false])<|dq 27 ((↑i:Int)≥(↑((2:Nat)^k):Int))<|aW<|zS<|zP 1 [yH [(2,{k:=C.length})]] [.aa [39,27,6,5,3,0,1,2] [5,3]] ([yI (aC C)]++yM 7 (yB (((↑C.length:Int) != (18:Int))=true) (by simp;omega)))<|zT 39<|zq<|dd (bL)
 by_cases hP:P.length=k
 case neg =>
  rw [if_pos (.inr ah)]
  refine zO Tryz.func69 84<|zq<|zS<|zP 1 [yH ([(2,yV (ao (!decide (bB (↑k:Int))))),(8,{b:=false}),(14,{av:=some (aw (u64 (↑k:Int))),g:=false}),(15,{av:=some (ai (↑((2:Nat)^k):Int)),g:=false}),(17,{b:=false})]++yg [5,6,7,10,11,12,13,16])] [.aa [27,6,5,3,0,1,2] [5,3]] ([yI (cm ((↑k:Int)))]++yM 4 (yS ((!!decide (bB (↑k:Int)))=false))++yM 5 (yR false)++ [yI (ba ((↑k:Int))),yR false,yI (yc C8),yI Ko,yR false,yR false])<|dq 27 ((↑i:Int)≥(↑((2:Nat)^k):Int))<|aW<|zS<|zP 1 [yH ([(2,{k:=C.length}),(7,{k:=P.length,g:=false}),(11,{b:=false})]++yg [5,6,8,9,10])] [.aa [39,27,6,5,3,0,1,2] [5,3]] ([yI (aC C)]++yM 3 (yS (((↑C.length:Int) != (18:Int))=false))++ [yI (aC P)]++yM 4 (yS (((↑C.length:Int) != (18:Int))=false)))<|dm 39 ((↑P.length:Int) != (↑k:Int)) (by simp;omega)<|zq<|dd (bL)
 rw [if_neg ah]
 have hr:oH i m C=combine i (cO i m C 18):=if_pos hC
 have he:lD C=0:=if_pos hC
 refine zO Tryz.func69 84<|zq<|zS<|zP 1 [yH ([(2,yV (ao (!decide (bB (↑k:Int))))),(8,{b:=false}),(14,{av:=some (aw (u64 (↑k:Int))),g:=false}),(15,{av:=some (ai (↑((2:Nat)^k):Int)),g:=false}),(17,{b:=false})]++yg [5,6,7,10,11,12,13,16])] [.aa [27,6,5,3,0,1,2] [5,3]] ([yI (cm ((↑k:Int)))]++yM 4 (yS ((!!decide (bB (↑k:Int)))=false))++yM 5 (yR false)++ [yI (ba ((↑k:Int))),yR false,yI (yc C8),yI Ko,yR false,yR false])<|dq 27 ((↑i:Int)≥(↑((2:Nat)^k):Int))<|aW<|zS<|zP 1 [yH ([(2,{k:=C.length}),(7,{k:=P.length,g:=false}),(11,{b:=false})]++yg [5,6,8,9,10])] [.aa [39,27,6,5,3,0,1,2] [5,3]] ([yI (aC C)]++yM 3 (yS (((↑C.length:Int) != (18:Int))=false))++ [yI (aC P)]++yM 4 (yS (((↑C.length:Int) != (18:Int))=false)))<|bj 39 ((↑P.length:Int) != (↑k:Int)) (by simp_all)<|aW<|zP 1 [yH [(5,yV (AV.bk [aw (oH (↑i:Int) m C),ai (lD C)]))]] [.aa [7,39,27,6,5,3,0,1,2] [5,3]] [yI (ug ((↑i:Int)) m C)]<|zS<|zq<|zB 0 (zL (fun (j:Nat)=>(⟨[(39,ao ((↑P.length:Int) != (↑k:Int))),(27,ao (decide ((↑i:Int)≥(↑((2:Nat)^k):Int)))),(6,ai 0),(5,AV.addr 5 0),(3,AV.addr 3 0),(0,AV.agg [ai ↑k,aw r]),(1,aw m),(2,AV.agg [ai ↑i,AV.sl 1 (aj C),AV.sl 1 (aj P)]),(9,ai j),(7,aw (dv i P (combine i (cO i m C 18)) j))],[(5,⟨1,false,true,[ai ↑i,AV.sl 1 (aj C),AV.sl 1 (aj P)]⟩),(3,⟨1,false,true,[ai ↑k,aw r]⟩)]⟩:AS)) (fun j=>(j≤k)) (fun j=>(k-j)) (0) ?_ (eu [.aa [39,27,6,5,3,0,1,2,9,7] [5,3]] [7] [] [yB (aw (oH (↑i:Int) m C)=aw (dv i P (combine (↑i:Int) (cO (↑i:Int) m C 18)) 0)) (congrArg aw hr)]) ?_)
 ·omega
 intro j hj
 refine zS<|bf.jZ 1 [{}] [.aa [52,39,27,6,5,3,0,1,2,9,7] [5,3]] bt (s':=AS.mk [(52,ao (decide ((↑j:Int)<(↑k:Int)))),(39,ao ((↑P.length:Int) != (↑k:Int))),(27,ao (decide ((↑i:Int)≥(↑((2:Nat)^k):Int)))),(6,ai 0),(5,AV.addr 5 0),(3,AV.addr 3 0),(0,AV.agg [ai ↑k,aw r]),(1,aw m),(2,AV.agg [ai ↑i,AV.sl 1 (aj C),AV.sl 1 (aj P)]),(9,ai ↑j),(7,aw (dv i P (combine (↑i:Int) (cO (↑i:Int) m C 18)) j))] [(5,Row.mk 1 false true [ai ↑i,AV.sl 1 (aj C),AV.sl 1 (aj P)]),(3,Row.mk 1 false true [ai ↑k,aw r])]) (C:=[]) bt trivial (zD 52 ((↑j:Int)<(↑k:Int)) (fun g=>?_) (fun g=>?_))
 ·have hs:=Ar i j ah
  have hle:i/2^j≤i:=Nat.div_le_self ..
  have hq:i/2^j<16:=ah
  have ha:=Fu _ hq
  have Nk:(0:Int)≤wv (u64 (j:Int)):=Int.natCast_nonneg _
  have Sc:IntKind.i64.wrap ((j:Int)+1)=((j+1:Nat):Int):=by rw [fg ah ah];omega
  have hc:dv i P (combine i (cO i m C 18)) (j+1)=if i/2^j%2=0 then gR ((j+1:Nat):Int) (dv i P (combine i (cO i m C 18)) j) (P.getD j 0) else gR ((j+1:Nat):Int) (P.getD j 0) (dv i P (combine i (cO i m C 18)) j):=rfl
  generalize i/2^j=q at *
  generalize hx:dv i P (combine i (cO i m C 18)) j=x at *
  by_cases h2:q%2=0
  ·rw [if_pos h2] at hc
   generalize q%2=q2 at *
   refine aW<|zS<|zB 1<|zP 1 [yH [(3,yV (aw (u64 (↑j:Int)))),(4,yV (ai ↑q)),(5,yV (ai ↑q2))]] [.aa [61,52,39,27,6,5,3,0,1,2,9,7] [5,3]] [yI (ba ((↑j:Int))),yI (yc hs),yI Nk,yI (yc ha)]<|dm 61 ((↑q2:Int) == (0:Int)) eg<|zX (yH [(1,yV (ai (↑(j+1):Int))),(6,{k:=j}),(7,yV (aw (P.getD j 0))),(8,yV (aw (gR (↑(j+1):Int) x (P.getD j 0))))]) [yB (ai (IntKind.i64.wrap ((↑j:Int)+1))=ai (↑(j+1):Int)) (dE ah ah),yR (↑j:Int),yB (j<(aj P).length) (by simp only [aC];omega),yB ((aj P)[j]?=some (aw (P.getD j 0))) (dK ah),yI (lC (↑(j+1):Int) x (P.getD j 0))]<|aM<|ak<|bf.OG {hs:=[(1,{av:=some (ai ((↑j:Int)+1))})]} (s':=AS.mk [(9,ai ((↑j:Int)+1)),(54,ai ((↑j:Int)+1)),(53,ai ↑j),(7,aw (gR (↑(j+1):Int) x (P.getD j 0))),(70,aw (gR (↑(j+1):Int) x (P.getD j 0))),(69,aw (P.getD j 0)),(68,AV.ptr (aj P) j),(67,ai ↑j),(66,AV.sl 1 (aj P)),(65,AV.addr 5 2),(64,aw x),(63,ai (↑(j+1):Int)),(62,ai ↑j),(61,ao ((↑q2:Int) == (0:Int))),(52,ao (decide ((↑j:Int)<(↑k:Int)))),(39,ao ((↑P.length:Int) != (↑k:Int))),(27,ao (decide ((↑i:Int)≥(↑((2:Nat)^k):Int)))),(6,ai 0),(5,AV.addr 5 0),(3,AV.addr 3 0),(0,AV.agg [ai ↑k,aw r]),(1,aw m),(2,AV.agg [ai ↑i,AV.sl 1 (aj C),AV.sl 1 (aj P)])] [(5,Row.mk 1 false true [ai ↑i,AV.sl 1 (aj C),AV.sl 1 (aj P)]),(3,Row.mk 1 false true [ai ↑k,aw r])]) (C:=[ai (IntKind.i64.wrap ((↑j:Int)+1))=ai ((↑j:Int)+1)]) bt ⟨(dE ah ah),trivial⟩ (aH (j+1) ah ah (eu [.aa [39,27,6,5,3,0,1,2,9,7] [5,3]] [7] [] [yB (aw (gR (↑(j+1):Int) x (P.getD j 0))=aw (dv i P (combine (↑i:Int) (cO (↑i:Int) m C 18)) (j+1))) (by rw [hc])]))
  ·rw [if_neg h2] at hc
   generalize q%2=q2 at *
   refine aW<|zS<|zB 1<|zP 1 [yH [(3,yV (aw (u64 (↑j:Int)))),(4,yV (ai ↑q)),(5,yV (ai ↑q2))]] [.aa [61,52,39,27,6,5,3,0,1,2,9,7] [5,3]] [yI (ba ((↑j:Int))),yI (yc hs),yI Nk,yI (yc ha)]<|bj 61 ((↑q2:Int) == (0:Int)) bD<|zX (yH [(1,yV (ai (↑(j+1):Int))),(5,{k:=j}),(6,yV (aw (P.getD j 0))),(8,yV (aw (gR (↑(j+1):Int) (P.getD j 0) x)))]) [yB (ai (IntKind.i64.wrap ((↑j:Int)+1))=ai (↑(j+1):Int)) (dE ah ah),yR (↑j:Int),yB (j<(aj P).length) (by simp only [aC];omega),yB ((aj P)[j]?=some (aw (P.getD j 0))) (dK ah),yI (lC (↑(j+1):Int) (P.getD j 0) x)]<|aM<|ak<|zX (yH [(1,yV (ai ((↑j:Int)+1)))]) [yN ((↑j:Int)+1)] (aH (j+1) ah ah (eu [.aa [39,27,6,5,3,0,1,2,9,7] [5,3]] [7] [] [yB (aw (gR (↑(j+1):Int) (P.getD j 0) x)=aw (dv i P (combine (↑i:Int) (cO (↑i:Int) m C 18)) (j+1))) (by rw [hc])]))
 ·have e:j=k:=ah
  subst e
  by_cases kk:dv i P (combine i (cO i m C 18)) j=r
  ·rw [if_pos kk]
   refine zE 0<|aS<|aK<|bg<|ak<|zS<|zP 1 [yH [(3,yV (ao (dv i P (combine (↑i:Int) (cO (↑i:Int) m C 18)) j != r)))]] [.aa [83,52,39,27,6,5,3,0,1,2,9,7] [5,3]] [yI (cJ (dv i P (combine (↑i:Int) (cO (↑i:Int) m C 18)) j) r)]<|bj 83 (dv i P (combine (↑i:Int) (cO (↑i:Int) m C 18)) j != r) (by simp_all)<|aW<|zq<|zR (bL)
  ·rw [if_neg kk]
   refine zE 0<|aS<|aK<|bg<|ak<|zS<|zP 1 [yH [(3,yV (ao (dv i P (combine (↑i:Int) (cO (↑i:Int) m C 18)) j != r)))]] [.aa [83,52,39,27,6,5,3,0,1,2,9,7] [5,3]] [yI (cJ (dv i P (combine (↑i:Int) (cO (↑i:Int) m C 18)) j) r)]<|dm 83 (dv i P (combine (↑i:Int) (cO (↑i:Int) m C 18)) j != r) (by simp_all)<|zq<|dd (bL)
theorem Dh (m:Mem) (h:List UInt8):bC Tryz.prog 111 [.agg (aG m),.ptr [cQ h] 0] (ao (m.name == h)):=by
 refine zO Tryz.func111 8<|zP 2 [{},yH [(3,yV (ao (m.name == h)))]] [.aa [3,2,0,1] [2]] [yI (eU m.name h)]<|zR (bL)
theorem Dj (l:List Mem) (h:List UInt8) (vM:l.length≤1000000):bC Tryz.prog 110 [.sl 4 (ae aG l),.kX 111 [.ptr [cQ h] 0]] (ai (dG l h)):=by
 have hl:(ae aG l).length=l.length*4:=aE (e:=4) (fun _=>rfl) ..
 refine zO Tryz.func110 19<|zq<|zS<|zQ 1 [yH [(1,{k:=l.length})]] [yI hl]<|zB 0 (zL (fun (i:Nat)=>(⟨[(7,ai (↑l.length:Int)),(0,AV.sl 4 (ae aG l)),(1,AV.kX 111 [AV.ptr [cQ h] 0]),(8,ai i)],[]⟩:AS)) (fun i=>(i≤l.length∧ ∀j,j<i->(l.getD j default).name≠h)) (fun i=>(l.length-i)) (0) ?_ (zW [.aa [7,0,1,8] []]) ?_)
 ·exact ⟨ah,ah⟩
 rintro i ⟨hi,fM⟩
 refine zq<|zS (zD 9 ((↑i:Int)<(↑l.length:Int)) (fun g=>?_) (fun g=>?_))
 ·have cX:i<l.length:=ah
  have hc:=Dh (l.getD i default) h
  by_cases e:(l.getD i default).name=h
  ·have hf:=ym cX fM e
   refine aW<|zS<|zB 1<|zP 2 [{},yH [(3,{k:=i}),(4,yV (AV.agg (aG (l.getD i default)))),(5,yV (ao ((l.getD i default).name == h)))]] [.aa [16,5,9,7,0,1,8] []] [yR (↑i:Int),yO (i*4<(ae aG l).length),yu aG l i 0 4,yR 4,yI hc]<|dm 16 ((l.getD i default).name == h) (by simp_all)<|zq<|zR<|bc<|aN<|df<|bc<|aN (zV [yJ (↑i:Int) (dG l h) (by rw [hf])])
  ·skip
   refine aW<|zS<|zB 1<|zP 2 [{},yH [(3,{k:=i}),(4,yV (AV.agg (aG (l.getD i default)))),(5,yV (ao ((l.getD i default).name == h)))]] [.aa [16,5,9,7,0,1,8] []] [yR (↑i:Int),yO (i*4<(ae aG l).length),yu aG l i 0 4,yR 4,yI hc]<|bj 16 ((l.getD i default).name == h) (by simp_all)<|zK<|aM<|ak<|zX (yH [(0,yV (ai ((↑i:Int)+1)))]) [yN ((↑i:Int)+1)] (aH (i+1) ⟨ah,fun j hj=>by by_cases e2:j=i;(subst e2;exact e);exact fM j ah⟩ ah (zW [.aa [7,0,1,8] []]))
 ·have hf:=yk (l:=l) (h:=h) (fun j hj=>fM j ah)
  refine zE 0<|aS<|aK<|bg<|ak<|zq<|zR (zV [yJ (-1:Int) (dG l h) (by rw [hf])])
theorem nR (g:gp) (h:List UInt8) (vM:g.al.length≤1000000):bC Tryz.prog 61 [.agg (bo g),cQ h] (ai (dG g.al h)):=by
 refine zO Tryz.func61 9<|zP 2 [{},yH [(3,yV (ai (dG g.al h)))]] [.aa [4,3,2,0,1] [2]] [yI (Dj g.al h vM)]<|zR (bL)
theorem my (l:List Mem) (h:List UInt8) (vM:l.length≤1000000):bC Tryz.prog 64 [.sl 4 (ae aG l),cQ h] (ai (dG l h)):=by
 have hl:(ae aG l).length=l.length*4:=aE (e:=4) (fun _=>rfl) ..
 refine zO Tryz.func64 20<|zq<|zS<|zq<|zB 0 (zL (fun (i:Nat)=>(⟨[(0,AV.sl 4 (ae aG l)),(1,cQ h),(5,ai i)],[]⟩:AS)) (fun i=>(i≤l.length∧ ∀j,j<i->(l.getD j default).name≠h)) (fun i=>(l.length-i)) (0) ?_ (zW [.aa [0,1,5] []]) ?_)
 ·exact ⟨ah,ah⟩
 rintro i ⟨hi,fM⟩
 refine zS<|zP 1 [yH [(2,{k:=l.length})]] [.aa [9,0,1,5] []] [yI hl] (zD 9 ((↑i:Int)<(↑l.length:Int)) (fun g=>?_) (fun g=>?_))
 ·have cX:i<l.length:=ah
  by_cases e:(l.getD i default).name=h
  ·have hf:=ym cX fM e
   refine aW<|zS<|zB 1<|zP 1 [yH [(2,{k:=i}),(4,yV (cQ (l.getD i default).name)),(6,yV (ao ((l.getD i default).name == h)))]] [.aa [18,9,0,1,5] []] [yR (↑i:Int),yO (i*4<(ae aG l).length),yA aG l i 0,yI (eU ((l.getD i default).name) h)]<|dm 18 ((l.getD i default).name == h) (by simp_all)<|zq<|zR<|bc<|aN<|df<|bc<|aN (zV [yJ (↑i:Int) (dG l h) (by rw [hf])])
  ·skip
   refine aW<|zS<|zB 1<|zP 1 [yH [(2,{k:=i}),(4,yV (cQ (l.getD i default).name)),(6,yV (ao ((l.getD i default).name == h)))]] [.aa [18,9,0,1,5] []] [yR (↑i:Int),yO (i*4<(ae aG l).length),yA aG l i 0,yI (eU ((l.getD i default).name) h)]<|bj 18 ((l.getD i default).name == h) (by simp_all)<|zK<|aM<|ak<|zX (yH [(1,yV (ai ((↑i:Int)+1)))]) [yN ((↑i:Int)+1)] (aH (i+1) ⟨ah,fun j hj=>by by_cases e2:j=i;(subst e2;exact e);exact fM j ah⟩ ah (zW [.aa [0,1,5] []]))
 ·have hf:=yk (l:=l) (h:=h) (fun j hj=>fM j ah)
  refine zE 0<|aS<|aK<|bg<|ak<|zq<|zR (zV [yJ (-1:Int) (dG l h) (by rw [hf])])
def DR (l:List np) (p:UInt64):Int:=if vP l p<l.length then (vP l p:Int) else -1
theorem p8 (l:List np) (p:UInt64) (vM:l.length≤1000000):bC Tryz.prog 112 [.sl 7 (ae a_ l),aw p] (ai (DR l p)):=by
 have hl:(ae a_ l).length=l.length*7:=aE (e:=7) (fun _=>rfl) ..
 refine zO Tryz.func112 20<|zq<|zS<|zq<|zB 0 (zL (fun (i:Nat)=>(⟨[(0,AV.sl 7 (ae a_ l)),(1,aw p),(5,ai i)],[]⟩:AS)) (fun i=>(i≤l.length∧ ∀j,j<i->(l.getD j default).bY≠p)) (fun i=>(l.length-i)) (0) ?_ (zW [.aa [0,1,5] []]) ?_)
 ·exact ⟨ah,ah⟩
 rintro i ⟨hi,fM⟩
 refine zS<|zP 1 [yH [(2,{k:=l.length})]] [.aa [9,0,1,5] []] [yI hl] (zD 9 ((↑i:Int)<(↑l.length:Int)) (fun g=>?_) (fun g=>?_))
 ·have cX:i<l.length:=ah
  by_cases e:(l.getD i default).bY=p
  ·have hf:=Jm cX fM e
   refine aW<|zS<|zB 1<|zP 1 [yH [(2,{k:=i}),(4,yV (aw ((l.getD i default).bY))),(6,yV (ao ((l.getD i default).bY == p)))]] [.aa [18,9,0,1,5] []] [yR (↑i:Int),yO (i*7<(ae a_ l).length),yA a_ l i 0,yI (fw ((l.getD i default).bY) p)]<|dm 18 ((l.getD i default).bY == p) eg<|zq<|zR<|bc<|aN<|df<|bc<|aN (zV [yJ (↑i:Int) (DR l p) (by unfold DR;rw [hf,if_pos cX])])
  ·skip
   refine aW<|zS<|zB 1<|zP 1 [yH [(2,{k:=i}),(4,yV (aw ((l.getD i default).bY))),(6,yV (ao ((l.getD i default).bY == p)))]] [.aa [18,9,0,1,5] []] [yR (↑i:Int),yO (i*7<(ae a_ l).length),yA a_ l i 0,yI (fw ((l.getD i default).bY) p)]<|bj 18 ((l.getD i default).bY == p) bD<|zK<|aM<|ak<|zX (yH [(1,yV (ai ((↑i:Int)+1)))]) [yN ((↑i:Int)+1)] (aH (i+1) ⟨ah,fun j hj=>by by_cases e2:j=i;(subst e2;exact e);exact fM j ah⟩ ah (zW [.aa [0,1,5] []]))
 ·have hf:=Jl (l:=l) (p:=p) (fun j hj=>fM j ah)
  refine zE 0<|aS<|aK<|bg<|ak<|zq<|zR (zV [yJ (-1:Int) (DR l p) (by unfold DR;rw [hf,if_neg (Nat.lt_irrefl _)])])
theorem jt {l:List gb} {i:Nat} (h:i<l.length):List.take 4 (List.drop (i*4) (ae aU l))=aU (l.getD i default):=jm (e:=4) (fun _=>rfl) h
theorem uD {l:List Mem} {n:List UInt8} {k:Nat} (h:dG l n=k):K4 l n=l.getD k default:=by unfold K4;rw [h];rfl
def H6 (l:List gb) (i:Nat):Prop:=0<i∧F9 (l.getD i default).name (l.getD (i-1) default).name=true
theorem Pg {g:gp} {w:UInt64} {l:List gb} {i:Nat} (h:H6 l i):jY g w l i=7:=if_pos h
theorem Mb {g:gp} {w:UInt64} {l:List gb} {i:Nat} (h:¬H6 l i) (h2:dG g.al (l.getD i default).name<0):jY g w l i=11:=(if_neg h).trans (if_pos h2)
section
variable {g:gp} {w:UInt64} {l:List gb} {i k:Nat} (h:¬H6 l i) (h2:dG g.al (l.getD i default).name=k)
include h h2
theorem Hm {e:Int} (he:kA (g.al.getD k default).h (g.al.getD k default).r w (l.getD i default).leaf (l.getD i default).ga (l.getD i default).path=e) (h0:e≠0):jY g w l i=e:=by
 refine (if_neg h).trans ?_;rw [if_neg ah,uD h2,he,if_pos h0]
theorem xF (he:kA (g.al.getD k default).h (g.al.getD k default).r w (l.getD i default).leaf (l.getD i default).ga (l.getD i default).path=0):jY g w l i=if (g.al.getD k default).used&&&gE (l.getD i default).leaf≠0 then 37 else 0:=by
 refine (if_neg h).trans ?_;rw [if_neg ah,uD h2,he,if_neg ah]
end
theorem lg {g:gp} {w:UInt64} {l:List gb} {i:Nat} (hi:i<l.length) (h0:ff (jY g w l) i=0) {e:Int} (he:jY g w l i=e) (hn:e≠0):fB g w l=e:=by
 have k2:ff (jY g w l) (i+1)=e:=by show (if _ then _ else _)=_;rw [if_neg ah,he]
 have:=jB hn k2 l.length hi
 unfold fB
 rw [this,if_pos hn]
theorem J2 (g:gp) (w:UInt64) (V:List gb) (hm:g.al.length≤1000) (hv:V.length≤1000000):bC Tryz.prog 58 [.agg (bo g),.sl 4 (ae aU V),aw w] (ai (fB g w V)):=by
 have yx:(ae aU V).length=V.length*4:=aE (e:=4) (fun _=>rfl) ..
 have ml:(ae aG g.al).length=g.al.length*4:=aE (e:=4) (fun _=>rfl) ..
 refine zO Tryz.func58 68<|zq<|zS<|zQ 1 [yH [(1,{k:=V.length})]] [yI yx]<|zB 0 (zL (fun (i:Nat)=>(⟨[(12,ai (↑V.length:Int)),(11,AV.sl 4 (ae aU V)),(3,AV.addr 3 0),(0,AV.agg (bo g)),(1,AV.sl 4 (ae aU V)),(2,aw w),(13,ai i)],[(3,⟨1,false,true,List.map (aB 3) (bo g)⟩)]⟩:AS)) (fun i=>(i≤V.length∧ff (jY g w V) i=0)) (fun i=>(V.length-i)) (0) ?_ (zW [.aa [12,11,3,0,1,2,13] [3]]) ?_)
 ·exact ⟨ah,rfl⟩
 rintro i ⟨hi,h0⟩
 refine zq<|zS (zD 14 ((↑i:Int)<(↑V.length:Int)) (fun q=>?_) (fun q=>?_))
 ·have cX:i<V.length:=ah
  have gh:=jt cX
  refine aW<|zS<|zB 1<|zP 1 [yH [(1,{k:=i}),(2,yV (AV.agg (aU (V.getD i default))))]] [.aa [7,8,14,12,11,3,0,1,2,13] [8,3]] [yR (↑i:Int),yO (i*4<(ae aU V).length),yu aU V i 0 4,yR 4,yL 4 4] (bf.nJ (fun (u:Unit)=>(⟨[(7,ai ↑i),(8,AV.addr 8 0),(14,ao (decide ((↑i:Int)<(↑V.length:Int)))),(12,ai (↑V.length:Int)),(11,AV.sl 4 (ae aU V)),(3,AV.addr 3 0),(0,AV.agg (bo g)),(1,AV.sl 4 (ae aU V)),(2,aw w),(13,ai ↑i)],[(8,⟨1,false,true,(aU (V.getD i default))⟩),(3,⟨1,false,true,List.map (aB 8) (List.map (aB 3) (bo g))⟩)]⟩:AS)) (fun u=>(¬H6 V i)) bt ?_ ?_)
  ·by_cases c6:0<i
   ·obtain ⟨k,hk⟩:∃k,k+1=i:=⟨i-1,ah⟩
    have yP:=jt (l:=V) (i:=k) ah
    have ek:i-1=k:=ah
    by_cases c7:F9 (V.getD i default).name (V.getD k default).name=true
    ·have k1:=lg cX h0 (Pg (g:=g) (w:=w) ⟨c6,by rw [ek];exact c7⟩) ah
     refine zP 1 [{hs:=[(7,yV (ai ↑k)),(8,{k:=k}),(10,yV (cQ (V.getD k default).name))],T:=11}] [.aa [30,7,8,14,12,11,3,0,1,2,13] [8,3]] (yM 5 (yT ((↑i:Int)>0))++ [yB (ai (IntKind.i64.wrap ((↑i:Int)-1))=ai ↑k) (congrArg (fun n=>AV.val (.int .i64 n)) (by rw [IntKind.wrap_i64];omega)),yT ((↑i:Int)>0),yR (↑k:Int),yO (k*4<(ae aU V).length)]++yM 2 (yT ((↑i:Int)>0))++ [yA aU V k 0]++yM 2 (yT ((↑i:Int)>0)))<|dm 30 (Op.bytesLess (ByteArray.mk (V.getD i default).name.toArray).toList (ByteArray.mk (V.getD k default).name.toArray).toList || (ByteArray.mk (V.getD i default).name.toArray).toList == (ByteArray.mk (V.getD k default).name.toArray).toList) (by assumption)<|zq<|dd<|bc<|aN<|df<|bc<|aN (zV [yJ 7 (fB g w V) (by rw [k1])])
    ·have c9:F9 (V.getD i default).name (V.getD k default).name=false:=by simpa using c7
     refine zP 1 [{hs:=[(7,yV (ai ↑k)),(8,{k:=k}),(10,yV (cQ (V.getD k default).name))],T:=11}] [.aa [30,7,8,14,12,11,3,0,1,2,13] [8,3]] (yM 5 (yT ((↑i:Int)>0))++ [yB (ai (IntKind.i64.wrap ((↑i:Int)-1))=ai ↑k) (congrArg (fun n=>AV.val (.int .i64 n)) (by rw [IntKind.wrap_i64];omega)),yT ((↑i:Int)>0),yR (↑k:Int),yO (k*4<(ae aU V).length)]++yM 2 (yT ((↑i:Int)>0))++ [yA aU V k 0]++yM 2 (yT ((↑i:Int)>0)))<|bj 30 (Op.bytesLess (ByteArray.mk (V.getD i default).name.toArray).toList (ByteArray.mk (V.getD k default).name.toArray).toList || (ByteArray.mk (V.getD i default).name.toArray).toList == (ByteArray.mk (V.getD k default).name.toArray).toList) (by assumption)<|aW (⟨(),(fun q=>by have:=q.2;rw [ek] at this;exact c7 this),(zW [.aa [7,8,14,12,11,3,0,1,2,13] [8,3]])⟩)
   ·skip
    refine zP 1 [{hs:=[(3,{g:=false}),(4,{g:=false}),(5,{g:=false}),(6,{g:=false}),(7,{g:=false}),(8,{g:=false}),(9,{g:=false}),(10,{g:=false}),(11,{g:=false}),(12,{b:=false})],T:=11}] [.aa [30,7,8,14,12,11,3,0,1,2,13] [8,3]] (yM 10 (yF ((↑i:Int)>0)))<|zF 30<|aW (⟨(),(fun q=>c6 q.1),(zW [.aa [7,8,14,12,11,3,0,1,2,13] [8,3]])⟩)
  intro u hu
  have nm:=nR g (V.getD i default).name ah
  rcases gI g.al (V.getD i default).name with hk|⟨k,hk,iH,Qa⟩
  ·have k1:=lg cX h0 (Mb (g:=g) (w:=w) hu ah) ah
   rw [hk] at nm
   refine zP 1 [yH [(3,yV (ai (-1:Int)))]] [.aa [9,7,8,14,12,11,3,0,1,2,13] [8,3]] [yI nm]<|zS<|zq<|gN 36 ((-1:Int)<0)<|zq<|dd<|bc<|aN<|df<|bc<|aN (zV [yJ 11 (fB g w V) (by rw [k1])])
  have Si:=mE iH
  rw [hk] at nm
  have Lf:=Cp (g.al.getD k default).h (g.al.getD k default).r w (V.getD i default).leaf (V.getD i default).ga (V.getD i default).path
  by_cases cv:kA (g.al.getD k default).h (g.al.getD k default).r w (V.getD i default).leaf (V.getD i default).ga (V.getD i default).path=0
  case neg =>
   have k1:=lg cX h0 (Hm hu hk rfl cv) cv
   refine zP 1 [yH [(3,yV (ai ↑k))]] [.aa [9,7,8,14,12,11,3,0,1,2,13] [8,3]] [yI nm]<|zS<|zQ 1 [yH [(1,yV (ao false))]] [yR (ao false)]<|zF 36<|aW<|zS<|zP 2 [{hs:=[(3,{k:=k}),(5,yV (AV.agg [ai ((g.al.getD k default).h),aw ((g.al.getD k default).r)])),(9,yV (ai (kA (g.al.getD k default).h (g.al.getD k default).r w (V.getD i default).leaf (V.getD i default).ga (V.getD i default).path)))],T:=9},{}] [.aa [48,10,36,9,7,8,14,12,11,3,0,1,2,13] [8,3]] [yR (↑k:Int),yO (k*4<(ae aG g.al).length),yu aG g.al k 1 2,yR 2,yI Lf]<|dm 48 (kA (g.al.getD k default).h (g.al.getD k default).r w (V.getD i default).leaf (V.getD i default).ga (V.getD i default).path != (0:Int)) (by simp_all)<|zP 1 [{}] [.aa [6,48,10,36,9,7,8,14,12,11,3,0,1,2,13] [8,3]] []<|dd<|bc<|aN<|df<|bc<|aN (zV [yJ (kA (g.al.getD k default).h (g.al.getD k default).r w (V.getD i default).leaf (V.getD i default).ga (V.getD i default).path) (fB g w V) (by rw [k1])])
  have Lm:=tP cv
  have hr:=xF hu hk cv
  rw [cv] at Lf
  by_cases cu:(g.al.getD k default).used&&&gE (V.getD i default).leaf=0
  ·rw [if_neg (fun q=>q cu)] at hr
   refine zP 1 [yH [(3,yV (ai ↑k))]] [.aa [9,7,8,14,12,11,3,0,1,2,13] [8,3]] [yI nm]<|zS<|zq<|dq 36 ((↑k:Int)<0)<|aW<|zS<|zP 2 [{hs:=[(3,{k:=k}),(5,yV (AV.agg [ai ((g.al.getD k default).h),aw ((g.al.getD k default).r)])),(9,yV (ai 0))],T:=9},{}] [.aa [48,10,36,9,7,8,14,12,11,3,0,1,2,13] [8,3]] [yR (↑k:Int),yO (k*4<(ae aG g.al).length),yu aG g.al k 1 2,yR 2,yI Lf]<|zF 48<|aW<|zP 1 [{hs:=[(3,{k:=k}),(5,yV (aw ((g.al.getD k default).used))),(9,yV (aw (gE (V.getD i default).leaf))),(10,yV (aw ((g.al.getD k default).used&&&gE (V.getD i default).leaf))),(11,yV (ao false))],T:=10}] [.aa [61,48,10,36,9,7,8,14,12,11,3,0,1,2,13] [8,3]] [yR (↑k:Int),yO (k*4<(ae aG g.al).length),yA aG g.al k 3,yB (AV.val (Value.int .u64 (IntKind.u64.wrap ((1:Int)*(2:Int)^min (V.getD i default).leaf.toNat IntKind.u64.bits)))=aw (gE (V.getD i default).leaf)) (jD 1 _ Lm.1 ah),yO ((0:Int)≤(V.getD i default).leaf),yI (iZ ((g.al.getD k default).used) (gE (V.getD i default).leaf)),yB (ao (wv ((g.al.getD k default).used&&&gE (V.getD i default).leaf) != (0:Int))=ao false) (by rw [cu];rfl)]<|zF 61<|zK<|aM<|ak<|zX (yH [(0,yV (ai ((↑i:Int)+1)))]) [yN ((↑i:Int)+1)] (aH (i+1) ⟨ah,by show (if _ then _ else _)=_;rw [if_neg ah,hr]⟩ ah (zW [.aa [12,11,3,0,1,2,13] [3]]))
  ·rw [if_pos cu] at hr
   have k1:=lg cX h0 hr ah
   refine zP 1 [yH [(3,yV (ai ↑k))]] [.aa [9,7,8,14,12,11,3,0,1,2,13] [8,3]] [yI nm]<|zS<|zq<|dq 36 ((↑k:Int)<0)<|aW<|zS<|zP 2 [{hs:=[(3,{k:=k}),(5,yV (AV.agg [ai ((g.al.getD k default).h),aw ((g.al.getD k default).r)])),(9,yV (ai 0))],T:=9},{}] [.aa [48,10,36,9,7,8,14,12,11,3,0,1,2,13] [8,3]] [yR (↑k:Int),yO (k*4<(ae aG g.al).length),yu aG g.al k 1 2,yR 2,yI Lf]<|zF 48<|aW<|zP 1 [{hs:=[(3,{k:=k}),(5,yV (aw ((g.al.getD k default).used))),(9,yV (aw (gE (V.getD i default).leaf))),(10,yV (aw ((g.al.getD k default).used&&&gE (V.getD i default).leaf))),(11,yV (ao ((g.al.getD k default).used&&&gE (V.getD i default).leaf != 0)))],T:=10}] [.aa [61,48,10,36,9,7,8,14,12,11,3,0,1,2,13] [8,3]] [yR (↑k:Int),yO (k*4<(ae aG g.al).length),yA aG g.al k 3,yB (AV.val (Value.int .u64 (IntKind.u64.wrap ((1:Int)*(2:Int)^min (V.getD i default).leaf.toNat IntKind.u64.bits)))=aw (gE (V.getD i default).leaf)) (jD 1 _ Lm.1 ah),yO ((0:Int)≤(V.getD i default).leaf),yI (iZ ((g.al.getD k default).used) (gE (V.getD i default).leaf)),yI (cJ ((g.al.getD k default).used&&&gE (V.getD i default).leaf) 0)]<|dm 61 ((g.al.getD k default).used&&&gE (V.getD i default).leaf != 0) (by simp_all)<|zq<|zR<|bc<|aN<|df<|bc<|aN (zV [yJ 37 (fB g w V) (by rw [k1])])
 ·have e:i=V.length:=ah
  subst e
  refine zE 0<|aS<|aK<|bg<|ak<|zS<|zP 1 [yH [(1,{k:=V.length})]] [.aa [67,14,12,11,3,0,1,2,13] [3]] [yI yx] (zD 67 ((↑V.length:Int)<g.br) (fun q2=>?_) (fun q2=>?_))
  ·skip
   refine zq<|dd (zV [yJ 41 (fB g w V) (by unfold fB;rw [if_neg ah,if_pos ah])])
  ·skip
   refine aW<|zq<|zR (zV [yJ 0 (fB g w V) (by unfold fB;rw [if_neg ah,if_neg ah])])
theorem xS (g:gp) (w:UInt64) (V:List gb) (hm:g.al.length≤1000) (hv:V.length≤1000000):bC Tryz.prog 62 [.agg (bo g),.sl 4 (ae aU V),aw w] (ai (fB g w V)):=by
 have yx:(ae aU V).length=V.length*4:=aE (e:=4) (fun _=>rfl) ..
 have ml:(ae aG g.al).length=g.al.length*4:=aE (e:=4) (fun _=>rfl) ..
 refine zO Tryz.func62 79<|zq<|zS<|zq<|zB 0 (zL (fun (i:Nat)=>(⟨[(3,AV.addr 3 0),(0,AV.agg (bo g)),(1,AV.sl 4 (ae aU V)),(2,aw w),(7,ai i)],[(3,⟨1,false,true,List.map (aB 3) (bo g)⟩)]⟩:AS)) (fun i=>(i≤V.length∧ff (jY g w V) i=0)) (fun i=>(V.length-i)) (0) ?_ (zW [.aa [3,0,1,2,7] [3]]) ?_)
 ·exact ⟨ah,rfl⟩
 rintro i ⟨hi,h0⟩
 refine zS<|zP 1 [yH [(2,{k:=V.length})]] [.aa [13,3,0,1,2,7] [3]] [yI yx] (zD 13 ((↑i:Int)<(↑V.length:Int)) (fun q=>?_) (fun q=>?_))
 ·have cX:i<V.length:=ah
  have gh:=jt cX
  refine aW<|zS<|zB 1 (bf.nJ (fun (u:Unit)=>(⟨[(13,ao (decide ((↑i:Int)<(↑V.length:Int)))),(3,AV.addr 3 0),(0,AV.agg (bo g)),(1,AV.sl 4 (ae aU V)),(2,aw w),(7,ai ↑i)],[(3,⟨1,false,true,List.map (aB 3) (bo g)⟩)]⟩:AS)) (fun u=>(¬H6 V i)) bt ?_ ?_)
  ·by_cases c6:0<i
   ·obtain ⟨k,hk⟩:∃k,k+1=i:=⟨i-1,ah⟩
    have yP:=jt (l:=V) (i:=k) ah
    have ek:i-1=k:=ah
    by_cases c7:F9 (V.getD i default).name (V.getD k default).name=true
    ·have k1:=lg cX h0 (Pg (g:=g) (w:=w) ⟨c6,by rw [ek];exact c7⟩) ah
     refine zP 1 [{hs:=[(5,{k:=i}),(7,yV (cQ (V.getD i default).name)),(10,yV (ai ↑k)),(11,{k:=k}),(13,yV (cQ (V.getD k default).name))],T:=14}] [.aa [31,13,3,0,1,2,7] [3]] (yM 3 (yT ((↑i:Int)>0))++ [yR (↑i:Int),yO (i*4<(ae aU V).length)]++yM 2 (yT ((↑i:Int)>0))++ [yA aU V i 0]++yM 3 (yT ((↑i:Int)>0))++ [yB (ai (IntKind.i64.wrap ((↑i:Int)-1))=ai ↑k) (congrArg (fun n=>AV.val (.int .i64 n)) (by rw [IntKind.wrap_i64];omega)),yT ((↑i:Int)>0),yR (↑k:Int),yO (k*4<(ae aU V).length)]++yM 2 (yT ((↑i:Int)>0))++ [yA aU V k 0]++yM 2 (yT ((↑i:Int)>0)))<|dm 31 (Op.bytesLess (ByteArray.mk (V.getD i default).name.toArray).toList (ByteArray.mk (V.getD k default).name.toArray).toList || (ByteArray.mk (V.getD i default).name.toArray).toList == (ByteArray.mk (V.getD k default).name.toArray).toList) (by assumption)<|zq<|dd<|bc<|aN<|df<|bc<|aN (zV [yJ 7 (fB g w V) (by rw [k1])])
    ·have c9:F9 (V.getD i default).name (V.getD k default).name=false:=by simpa using c7
     refine zP 1 [{hs:=[(5,{k:=i}),(7,yV (cQ (V.getD i default).name)),(10,yV (ai ↑k)),(11,{k:=k}),(13,yV (cQ (V.getD k default).name))],T:=14}] [.aa [31,13,3,0,1,2,7] [3]] (yM 3 (yT ((↑i:Int)>0))++ [yR (↑i:Int),yO (i*4<(ae aU V).length)]++yM 2 (yT ((↑i:Int)>0))++ [yA aU V i 0]++yM 3 (yT ((↑i:Int)>0))++ [yB (ai (IntKind.i64.wrap ((↑i:Int)-1))=ai ↑k) (congrArg (fun n=>AV.val (.int .i64 n)) (by rw [IntKind.wrap_i64];omega)),yT ((↑i:Int)>0),yR (↑k:Int),yO (k*4<(ae aU V).length)]++yM 2 (yT ((↑i:Int)>0))++ [yA aU V k 0]++yM 2 (yT ((↑i:Int)>0)))<|bj 31 (Op.bytesLess (ByteArray.mk (V.getD i default).name.toArray).toList (ByteArray.mk (V.getD k default).name.toArray).toList || (ByteArray.mk (V.getD i default).name.toArray).toList == (ByteArray.mk (V.getD k default).name.toArray).toList) (by assumption)<|aW (⟨(),(fun q=>by have:=q.2;rw [ek] at this;exact c7 this),(zW [.aa [13,3,0,1,2,7] [3]])⟩)
   ·skip
    refine zP 1 [{hs:=[(3,{g:=false}),(4,{g:=false}),(5,{g:=false}),(6,{g:=false}),(7,{g:=false}),(8,{g:=false}),(9,{g:=false}),(10,{g:=false}),(11,{g:=false}),(12,{g:=false}),(13,{g:=false}),(14,{g:=false}),(15,{b:=false})],T:=14}] [.aa [31,13,3,0,1,2,7] [3]] (yM 13 (yF ((↑i:Int)>0)))<|zF 31<|aW (⟨(),(fun q=>c6 q.1),(zW [.aa [13,3,0,1,2,7] [3]])⟩)
  intro u hu
  have nm:=my g.al (V.getD i default).name ah
  rcases gI g.al (V.getD i default).name with hk|⟨k,hk,iH,Qa⟩
  ·have k1:=lg cX h0 (Mb (g:=g) (w:=w) hu ah) ah
   rw [hk] at nm
   refine zP 1 [{hs:=[(4,{k:=i}),(6,yV (cQ (V.getD i default).name)),(7,yV (ai (-1:Int)))],T:=7}] [.aa [8,13,3,0,1,2,7] [3]] [yR (↑i:Int),yO (i*4<(ae aU V).length),yA aU V i 0,yI nm]<|zS<|zq<|gN 41 ((-1:Int)<0)<|zq<|dd<|bc<|aN<|df<|bc<|aN (zV [yJ 11 (fB g w V) (by rw [k1])])
  have Si:=mE iH
  rw [hk] at nm
  have Lf:=vW (g.al.getD k default).h (g.al.getD k default).r w (V.getD i default).leaf (V.getD i default).ga (V.getD i default).path
  by_cases cv:kA (g.al.getD k default).h (g.al.getD k default).r w (V.getD i default).leaf (V.getD i default).ga (V.getD i default).path=0
  case neg =>
   have k1:=lg cX h0 (Hm hu hk rfl cv) cv
   refine zP 1 [{hs:=[(4,{k:=i}),(6,yV (cQ (V.getD i default).name)),(7,yV (ai ↑k))],T:=7}] [.aa [8,13,3,0,1,2,7] [3]] [yR (↑i:Int),yO (i*4<(ae aU V).length),yA aU V i 0,yI nm]<|zS<|zQ 1 [yH [(1,yV (ao false))]] [yR (ao false)]<|zF 41<|aW<|zS<|zP 2 [{hs:=[(3,{k:=k}),(5,yV (AV.agg [ai ((g.al.getD k default).h),aw ((g.al.getD k default).r)])),(9,{k:=i}),(11,yV (AV.agg [ai ((V.getD i default).leaf),AV.sl 1 (aj (V.getD i default).ga),AV.sl 1 (aj (V.getD i default).path)])),(12,yV (ai (kA (g.al.getD k default).h (g.al.getD k default).r w (V.getD i default).leaf (V.getD i default).ga (V.getD i default).path)))],T:=12},{}] [.aa [56,9,41,8,13,3,0,1,2,7] [3]] [yR (↑k:Int),yO (k*4<(ae aG g.al).length),yu aG g.al k 1 2,yR 2,yR (↑i:Int),yO (i*4<(ae aU V).length),yu aU V i 1 3,yR 3,yI Lf]<|dm 56 (kA (g.al.getD k default).h (g.al.getD k default).r w (V.getD i default).leaf (V.getD i default).ga (V.getD i default).path != (0:Int)) (by simp_all)<|zP 1 [{}] [.aa [6,56,9,41,8,13,3,0,1,2,7] [3]] []<|dd<|bc<|aN<|df<|bc<|aN (zV [yJ (kA (g.al.getD k default).h (g.al.getD k default).r w (V.getD i default).leaf (V.getD i default).ga (V.getD i default).path) (fB g w V) (by rw [k1])])
  have Lm:=tP cv
  have hr:=xF hu hk cv
  rw [cv] at Lf
  obtain ⟨z,hz,RR⟩:∃z:Nat,(V.getD i default).leaf=z∧z<16:=⟨(V.getD i default).leaf.toNat,ah,ah⟩
  have PD:IntKind.u64.wrap (V.getD i default).leaf=(z:Int):=by rw [hz,IntKind.wrap_u64];omega
  have E9:=Ov (g.al.getD k default).used z ah
  have UK:gE (V.getD i default).leaf=(1:UInt64)<<<UInt64.ofNat z:=by unfold gE;rw [hz];rfl
  rw [UK] at hr
  by_cases cu:(g.al.getD k default).used&&&((1:UInt64)<<<UInt64.ofNat z)=0
  ·rw [if_neg (fun q=>q cu)] at hr
   have cs:((((g.al.getD k default).used>>>UInt64.ofNat z)&&&1) == 1)=false:=beq_eq_false_iff_ne.2 fun q=>E9.1 q cu
   refine zP 1 [{hs:=[(4,{k:=i}),(6,yV (cQ (V.getD i default).name)),(7,yV (ai ↑k))],T:=7}] [.aa [8,13,3,0,1,2,7] [3]] [yR (↑i:Int),yO (i*4<(ae aU V).length),yA aU V i 0,yI nm]<|zS<|zq<|dq 41 ((↑k:Int)<0)<|aW<|zS<|zP 2 [{hs:=[(3,{k:=k}),(5,yV (AV.agg [ai ((g.al.getD k default).h),aw ((g.al.getD k default).r)])),(9,{k:=i}),(11,yV (AV.agg [ai ((V.getD i default).leaf),AV.sl 1 (aj (V.getD i default).ga),AV.sl 1 (aj (V.getD i default).path)])),(12,yV (ai 0))],T:=12},{}] [.aa [56,9,41,8,13,3,0,1,2,7] [3]] [yR (↑k:Int),yO (k*4<(ae aG g.al).length),yu aG g.al k 1 2,yR 2,yR (↑i:Int),yO (i*4<(ae aU V).length),yu aU V i 1 3,yR 3,yI Lf]<|zF 56<|aW<|zP 1 [{hs:=[(3,{k:=k}),(5,yV (aw ((g.al.getD k default).used))),(8,{k:=i}),(11,yV (ai ((V.getD i default).leaf))),(12,yV (AV.val (Value.int .u64 (↑z:Int)))),(13,yV (aw ((g.al.getD k default).used>>>UInt64.ofNat z))),(14,yV (aw ((g.al.getD k default).used>>>UInt64.ofNat z&&&(1:UInt64)))),(15,yV (ao ((g.al.getD k default).used>>>UInt64.ofNat z&&&(1:UInt64) == 1)))],T:=13}] [.aa [73,56,9,41,8,13,3,0,1,2,7] [3]] [yR (↑k:Int),yO (k*4<(ae aG g.al).length),yA aG g.al k 3,yR (↑i:Int),yO (i*4<(ae aU V).length),yA aU V i 1,yI (yd PD),yI (fq ((g.al.getD k default).used) ((↑z:Int)) ah ah),yO ((0:Int)≤(↑z:Int)),yI (iZ ((g.al.getD k default).used>>>UInt64.ofNat z) 1),yI (fw ((g.al.getD k default).used>>>UInt64.ofNat z&&&(1:UInt64)) 1)]<|bj 73 ((g.al.getD k default).used>>>UInt64.ofNat z&&&(1:UInt64) == 1) (by assumption)<|zK<|aM<|ak<|zX (yH [(1,yV (ai ((↑i:Int)+1)))]) [yN ((↑i:Int)+1)] (aH (i+1) ⟨ah,by show (if _ then _ else _)=_;rw [if_neg ah,hr]⟩ ah (zW [.aa [3,0,1,2,7] [3]]))
  ·rw [if_pos cu] at hr
   have k1:=lg cX h0 hr ah
   have cs:((((g.al.getD k default).used>>>UInt64.ofNat z)&&&1) == 1)=true:=beq_iff_eq.2 (E9.2 cu)
   refine zP 1 [{hs:=[(4,{k:=i}),(6,yV (cQ (V.getD i default).name)),(7,yV (ai ↑k))],T:=7}] [.aa [8,13,3,0,1,2,7] [3]] [yR (↑i:Int),yO (i*4<(ae aU V).length),yA aU V i 0,yI nm]<|zS<|zq<|dq 41 ((↑k:Int)<0)<|aW<|zS<|zP 2 [{hs:=[(3,{k:=k}),(5,yV (AV.agg [ai ((g.al.getD k default).h),aw ((g.al.getD k default).r)])),(9,{k:=i}),(11,yV (AV.agg [ai ((V.getD i default).leaf),AV.sl 1 (aj (V.getD i default).ga),AV.sl 1 (aj (V.getD i default).path)])),(12,yV (ai 0))],T:=12},{}] [.aa [56,9,41,8,13,3,0,1,2,7] [3]] [yR (↑k:Int),yO (k*4<(ae aG g.al).length),yu aG g.al k 1 2,yR 2,yR (↑i:Int),yO (i*4<(ae aU V).length),yu aU V i 1 3,yR 3,yI Lf]<|zF 56<|aW<|zP 1 [{hs:=[(3,{k:=k}),(5,yV (aw ((g.al.getD k default).used))),(8,{k:=i}),(11,yV (ai ((V.getD i default).leaf))),(12,yV (AV.val (Value.int .u64 (↑z:Int)))),(13,yV (aw ((g.al.getD k default).used>>>UInt64.ofNat z))),(14,yV (aw ((g.al.getD k default).used>>>UInt64.ofNat z&&&(1:UInt64)))),(15,yV (ao ((g.al.getD k default).used>>>UInt64.ofNat z&&&(1:UInt64) == 1)))],T:=13}] [.aa [73,56,9,41,8,13,3,0,1,2,7] [3]] [yR (↑k:Int),yO (k*4<(ae aG g.al).length),yA aG g.al k 3,yR (↑i:Int),yO (i*4<(ae aU V).length),yA aU V i 1,yI (yd PD),yI (fq ((g.al.getD k default).used) ((↑z:Int)) ah ah),yO ((0:Int)≤(↑z:Int)),yI (iZ ((g.al.getD k default).used>>>UInt64.ofNat z) 1),yI (fw ((g.al.getD k default).used>>>UInt64.ofNat z&&&(1:UInt64)) 1)]<|dm 73 ((g.al.getD k default).used>>>UInt64.ofNat z&&&(1:UInt64) == 1) (by assumption)<|zq<|zR<|bc<|aN<|df<|bc<|aN (zV [yJ 37 (fB g w V) (by rw [k1])])
 ·have e:i=V.length:=ah
  subst e
  refine zE 0<|aS<|aK<|bg<|ak<|zS<|zP 1 [yH [(1,{k:=V.length})]] [.aa [78,13,3,0,1,2,7] [3]] [yI yx] (zD 78 ((↑V.length:Int)<g.br) (fun q2=>?_) (fun q2=>?_))
  ·skip
   refine zq<|dd (zV [yJ 41 (fB g w V) (by unfold fB;rw [if_neg ah,if_pos ah])])
  ·skip
   refine aW<|zq<|zR (zV [yJ 0 (fB g w V) (by unfold fB;rw [if_neg ah,if_neg ah])])
end Go.Proofs.YtjgbhhnghedgdaaGreatDoor
