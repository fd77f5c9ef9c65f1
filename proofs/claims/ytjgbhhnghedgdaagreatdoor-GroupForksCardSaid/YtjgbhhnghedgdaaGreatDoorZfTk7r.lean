import Derived.Test.YtjgbhhnghedgdaaGreatDoorZfGrB3
set_option linter.all false
namespace Go.Proofs.YtjgbhhnghedgdaaGreatDoor
open Go.RowKit
set_option maxRecDepth 100000
set_option maxHeartbeats 4000000
theorem nR (leaf:Int) (m:UInt64) (s:List UInt64):bA Tryz.prog 114 [ai leaf,aw m,.sl 1 (aj s)] (.b_ [aw (qw leaf m s),ai (mN s)]):=by
 by_cases hs:s.length=18
 case neg =>
  have e1:qw leaf m s=0:=if_neg hs
  have e2:mN s=4:=if_neg hs
  refine zO Tryz.func114 37<|zq<|zS<|zP 1 [yH [(1,{k:=s.length})]] [.aa [13,7,6,0,1,2] []] [yI (aE s)]<|du 13 ((↑s.length:Int) != (18:Int)) (by simp;omega)<|zq<|dk (zV [yK 0 (wv (qw leaf m s)) (by rw [e1];rfl),yJ 4 (mN s) (by rw [e2])])
 have e1:qw leaf m s=combine leaf (cN leaf m s 18):=if_pos hs
 have e2:mN s=0:=if_pos hs
 have hd:=ou m
 refine zO Tryz.func114 37<|zq<|zS<|zP 1 [yH [(1,{k:=s.length})]] [.aa [13,7,6,0,1,2] []] [yI (aE s)]<|bj 13 ((↑s.length:Int) != (18:Int)) (by simp_all)<|a6<|zQ 2 [yH [(1,yC (ix (m)))],{}] [yI (ix m),yB (lM (ax (ct m))) (xr _)]<|zS<|zq<|zB 0 (zL (fun (k:Nat)=>(⟨[(8,AV.ref 15),(13,ao ((↑s.length:Int) != (18:Int))),(7,ai 0),(6,dY),(0,ai leaf),(1,aw m),(2,AV.sl 1 (aj s)),(10,ai k),(9,AV.ref 31)],[(15,⟨1,true,false,ax (ct m)⟩),(31,⟨1,true,false,aj (cN leaf m s k)⟩)]⟩:AS)) (fun k=>(k≤18)) (fun k=>(18-k)) (0) ?_ (zW [.nil 9 31 1,.aa [8,13,7,6,0,1,2,10,9] [15,31]]) ?_)
 ·omega
 intro k hk
 have hl:=Bv leaf m s k
 refine zS<|zq (zD 17 ((↑k:Int)<18) (fun h=>?_) (fun h=>?_))
 ·skip
  refine a6<|zS<|zB 1<|zX ({hs:=[(5,{k:=k}),(6,yV (ai ((ct m).getD k (0:Int)))),(9,{k:=k}),(10,yV (aw (s.getD k 0))),(11,yV (aw (run leaf (↑k:Int) ((ct m).getD k (0:Int)) (15:Int) (s.getD k 0)))),(12,yV (AV.arr (aj [run leaf (↑k:Int) ((ct m).getD k (0:Int)) (15:Int) (s.getD k 0)]))),(13,yV (AV.arr (aj (cN leaf m s k++ [run leaf (↑k:Int) ((ct m).getD k (0:Int)) (15:Int) (s.getD k 0)]))))],T:=13}) [yR (↑k:Int),yO (k<18),yB ((ax (ct m))[k]?=some (ai ((ct m).getD k (0:Int)))) (mn ag),yR (↑k:Int),yB (k<(aj s).length) (by simp only [aE];omega),yB ((aj s)[k]?=some (aw (s.getD k 0))) (eM ag),yI (pL leaf ((↑k:Int)) ((ct m).getD k (0:Int)) ((15:Int)) (s.getD k 0)),yR [aw (run leaf (↑k:Int) ((ct m).getD k (0:Int)) (15:Int) (s.getD k 0))],yB (aj (cN leaf m s k)++aj [run leaf (↑k:Int) ((ct m).getD k (0:Int)) (15:Int) (s.getD k 0)]=aj (cN leaf m s k++ [run leaf (↑k:Int) ((ct m).getD k (0:Int)) (15:Int) (s.getD k 0)])) (jr _ _),yB (((aj (cN leaf m s k)).length+1)*8≤140737488355328) (by simp only [aE];omega)]<|aK<|al<|zX (yH [(1,yV (ai ((↑k:Int)+1)))]) [yN ((↑k:Int)+1)] (aF (k+1) ag ag (eX [.wU 33 31,.aa [8,13,7,6,0,1,2,10,9] [15,31]] [] [31] [yB (aj (cN leaf m s k++ [run leaf (↑k:Int) ((ct m).getD k (0:Int)) (15:Int) (s.getD k 0)])=aj (cN leaf m s (k+1))) (congrArg aj (GJ leaf m s k).symm)]))
 ·have e:k=18:=ag
  subst e
  refine zE 0<|a7<|aP<|bp<|al<|zP 1 [yH [(2,yV (aw (combine leaf (cN leaf m s 18))))]] [.aa [7,6,17,8,13,0,1,2,10,9] [15,31]] [yI (s6 leaf (cN leaf m s 18) (by assumption))]<|zR (zV [yK (wv (combine leaf (cN leaf m s 18))) (wv (qw leaf m s)) (by rw [e1]),yJ 0 (mN s) (by rw [e2])])
theorem pf (h:Int) (r m:UInt64) (leaf:Int) (C P:List UInt64):bA Tryz.prog 69 [.agg [ai h,aw r],aw m,.agg [ai leaf,.sl 1 (aj C),.sl 1 (aj P)]] (ai (kM h r m leaf C P)):=by
 by_cases fq:iV h leaf
 ·have e1:kM h r m leaf C P=9:=if_pos fq
  rw [e1]
  unfold iV at fq
  by_cases hb:ck h
  ·refine zO Tryz.func69 84<|zq<|zS<|zP 1 [yH [(2,yC (bc (h)))]] [.aa [27,6,5,3,0,1,2] [5,3]] ([yI (bc h)]++yM 4 (yS ((!!decide (ck h))=true))++yM 8 (yR true))<|zT 27<|zq<|dk (bL)
  have sf:0≤h∧h≤4:=by unfold ck at hb;omega
  obtain ⟨k,rfl⟩:=Int.eq_ofNat_of_zero_le sf.1
  rw [Int.toNat_natCast] at fq
  have hk:k≤4:=ag
  by_cases cZ:leaf<0
  ·refine zO Tryz.func69 84<|zq<|zS<|zP 1 [yH ([(2,yC (bc ((↑k:Int)))),(8,{b:=false})]++yg [5,6,7])] [.aa [27,6,5,3,0,1,2] [5,3]] ([yI (bc ((↑k:Int)))]++yM 4 (yS ((!!decide (ck (↑k:Int)))=false))++yM 8 (yT (leaf<0)))<|zT 27<|zq<|dk (bL)
  have vM:((2^k:Nat):Int)≤leaf:=by rcases fq with h|h|h<;>first|exact absurd h hb|exact absurd h cZ|exact h
  have hp:2^k≤16:=Nat.pow_le_pow_right (by decide) (by omega:k≤4)
  have DO:IntKind.i64.wrap (1*2^min (wv (u64 (k:Int))).toNat IntKind.i64.bits)=((2^k:Nat):Int):=by
   rcases (ag:k=0∨k=1∨k=2∨k=3∨k=4) with rfl|rfl|rfl|rfl|rfl<;>decide +kernel
  have Lf:(0:Int)≤wv (u64 (k:Int)):=Int.natCast_nonneg _
  generalize 2^k=p2 at *
  refine zO Tryz.func69 84<|zq<|zS<|zP 1 [yH ([(2,yC (bc ((↑k:Int)))),(8,{b:=false}),(14,{av:=some (aw (u64 (↑k:Int))),g:=false}),(15,{av:=some (ai ↑p2),g:=false}),(17,{b:=false})]++yg [5,6,7,10,11,12,13,16])] [.aa [27,6,5,3,0,1,2] [5,3]] ([yI (bc ((↑k:Int)))]++yM 4 (yS ((!!decide (ck (↑k:Int)))=false))++yM 5 (yF (leaf<0))++ [yI (a8 ((↑k:Int))),yF (leaf<0),yI (yc DO),yI Lf]++yM 2 (yF (leaf<0)))<|gX 27 (leaf≥(↑p2:Int))<|zq<|dk (bL)
 have hv:kM h r m leaf C P=if C.length≠18∨(P.length:Int)≠h then 4 else if dA leaf.toNat P (combine leaf (cN leaf m C 18)) h.toNat=r then 0 else 15:=if_neg fq
 unfold iV ck at fq
 have sf:0≤h∧h≤4∧0≤leaf:=ag
 obtain ⟨k,rfl⟩:=Int.eq_ofNat_of_zero_le sf.1
 obtain ⟨i,rfl⟩:=Int.eq_ofNat_of_zero_le sf.2.2
 rw [Int.toNat_natCast] at fq
 rw [Int.toNat_natCast,Int.toNat_natCast] at hv
 have hk:k≤4:=ag
 have hb:¬ck (k:Int):=by unfold ck;omega
 have ho:¬((i:Int)<0∨((2^k:Nat):Int)≤i):=ag
 have hp:2^k≤16:=Nat.pow_le_pow_right (by decide) hk
 have DO:IntKind.i64.wrap (1*2^min (wv (u64 (k:Int))).toNat IntKind.i64.bits)=((2^k:Nat):Int):=by
  rcases (ag:k=0∨k=1∨k=2∨k=3∨k=4) with rfl|rfl|rfl|rfl|rfl<;>decide +kernel
 have Lf:(0:Int)≤wv (u64 (k:Int)):=Int.natCast_nonneg _
 rw [hv]
 by_cases hC:C.length=18
 case neg =>
  rw [if_pos (.inl hC)]
  refine zO Tryz.func69 84<|zq<|zS<|zP 1 [yH ([(2,yC (bc ((↑k:Int)))),(8,{b:=false}),(14,{av:=some (aw (u64 (↑k:Int))),g:=false}),(15,{av:=some (ai (↑((2:Nat)^k):Int)),g:=false}),(17,{b:=false})]++yg [5,6,7,10,11,12,13,16])] [.aa [27,6,5,3,0,1,2] [5,3]] ([yI (bc ((↑k:Int)))]++yM 4 (yS ((!!decide (ck (↑k:Int)))=false))++yM 5 (yR false)++ [yI (a8 ((↑k:Int))),yR false,yI (yc DO),yI Lf,yR false,yR false])<|dm 27 ((↑i:Int)≥(↑((2:Nat)^k):Int))<|a6<|zS<|zP 1 [yH [(2,{k:=C.length})]] [.aa [39,27,6,5,3,0,1,2] [5,3]] ([yI (aE C)]++yM 7 (yB (((↑C.length:Int) != (18:Int))=true) (by simp;omega)))<|zT 39<|zq<|dk (bL)
 by_cases hP:P.length=k
 case neg =>
  rw [if_pos (.inr ag)]
  refine zO Tryz.func69 84<|zq<|zS<|zP 1 [yH ([(2,yC (bc ((↑k:Int)))),(8,{b:=false}),(14,{av:=some (aw (u64 (↑k:Int))),g:=false}),(15,{av:=some (ai (↑((2:Nat)^k):Int)),g:=false}),(17,{b:=false})]++yg [5,6,7,10,11,12,13,16])] [.aa [27,6,5,3,0,1,2] [5,3]] ([yI (bc ((↑k:Int)))]++yM 4 (yS ((!!decide (ck (↑k:Int)))=false))++yM 5 (yR false)++ [yI (a8 ((↑k:Int))),yR false,yI (yc DO),yI Lf,yR false,yR false])<|dm 27 ((↑i:Int)≥(↑((2:Nat)^k):Int))<|a6<|zS<|zP 1 [yH ([(2,{k:=C.length}),(7,{k:=P.length,g:=false}),(11,{b:=false})]++yg [5,6,8,9,10])] [.aa [39,27,6,5,3,0,1,2] [5,3]] ([yI (aE C)]++yM 3 (yS (((↑C.length:Int) != (18:Int))=false))++ [yI (aE P)]++yM 4 (yS (((↑C.length:Int) != (18:Int))=false)))<|du 39 ((↑P.length:Int) != (↑k:Int)) (by simp;omega)<|zq<|dk (bL)
 rw [if_neg ag]
 have hr:qw i m C=combine i (cN i m C 18):=if_pos hC
 have he:mN C=0:=if_pos hC
 refine zO Tryz.func69 84<|zq<|zS<|zP 1 [yH ([(2,yC (bc ((↑k:Int)))),(8,{b:=false}),(14,{av:=some (aw (u64 (↑k:Int))),g:=false}),(15,{av:=some (ai (↑((2:Nat)^k):Int)),g:=false}),(17,{b:=false})]++yg [5,6,7,10,11,12,13,16])] [.aa [27,6,5,3,0,1,2] [5,3]] ([yI (bc ((↑k:Int)))]++yM 4 (yS ((!!decide (ck (↑k:Int)))=false))++yM 5 (yR false)++ [yI (a8 ((↑k:Int))),yR false,yI (yc DO),yI Lf,yR false,yR false])<|dm 27 ((↑i:Int)≥(↑((2:Nat)^k):Int))<|a6<|zS<|zP 1 [yH ([(2,{k:=C.length}),(7,{k:=P.length,g:=false}),(11,{b:=false})]++yg [5,6,8,9,10])] [.aa [39,27,6,5,3,0,1,2] [5,3]] ([yI (aE C)]++yM 3 (yS (((↑C.length:Int) != (18:Int))=false))++ [yI (aE P)]++yM 4 (yS (((↑C.length:Int) != (18:Int))=false)))<|bj 39 ((↑P.length:Int) != (↑k:Int)) (by simp_all)<|a6<|zP 1 [yH [(5,yC (nR ((↑i:Int)) (m) (C)))]] [.aa [7,39,27,6,5,3,0,1,2] [5,3]] [yI (nR ((↑i:Int)) m C)]<|zS<|zq<|zB 0 (zL (fun (j:Nat)=>(⟨[(39,ao ((↑P.length:Int) != (↑k:Int))),(27,ao (decide ((↑i:Int)≥(↑((2:Nat)^k):Int)))),(6,ai 0),(5,AV.addr 5 0),(3,AV.addr 3 0),(0,AV.agg [ai ↑k,aw r]),(1,aw m),(2,AV.agg [ai ↑i,AV.sl 1 (aj C),AV.sl 1 (aj P)]),(9,ai j),(7,aw (dA i P (combine i (cN i m C 18)) j))],[(5,⟨1,false,true,[ai ↑i,AV.sl 1 (aj C),AV.sl 1 (aj P)]⟩),(3,⟨1,false,true,[ai ↑k,aw r]⟩)]⟩:AS)) (fun j=>(j≤k)) (fun j=>(k-j)) (0) ?_ (eX [.aa [39,27,6,5,3,0,1,2,9,7] [5,3]] [7] [] [yB (aw (qw (↑i:Int) m C)=aw (dA i P (combine (↑i:Int) (cN (↑i:Int) m C 18)) 0)) (congrArg aw hr)]) ?_)
 ·omega
 intro j hj
 refine zS<|bf.pe 1 [{}] [.aa [52,39,27,6,5,3,0,1,2,9,7] [5,3]] bC (s':=AS.mk [(52,ao (decide ((↑j:Int)<(↑k:Int)))),(39,ao ((↑P.length:Int) != (↑k:Int))),(27,ao (decide ((↑i:Int)≥(↑((2:Nat)^k):Int)))),(6,ai 0),(5,AV.addr 5 0),(3,AV.addr 3 0),(0,AV.agg [ai ↑k,aw r]),(1,aw m),(2,AV.agg [ai ↑i,AV.sl 1 (aj C),AV.sl 1 (aj P)]),(9,ai ↑j),(7,aw (dA i P (combine (↑i:Int) (cN (↑i:Int) m C 18)) j))] [(5,Row.mk 1 false true [ai ↑i,AV.sl 1 (aj C),AV.sl 1 (aj P)]),(3,Row.mk 1 false true [ai ↑k,aw r])]) (C:=[]) bC trivial (zD 52 ((↑j:Int)<(↑k:Int)) (fun g=>?_) (fun g=>?_))
 ·have hs:=Bb i j ag
  have hle:i/2^j≤i:=Nat.div_le_self ..
  have hq:i/2^j<16:=ag
  have ha:=Gi _ hq
  have OB:(0:Int)≤wv (u64 (j:Int)):=Int.natCast_nonneg _
  have Ts:IntKind.i64.wrap ((j:Int)+1)=((j+1:Nat):Int):=by rw [fw ag ag];omega
  have hc:dA i P (combine i (cN i m C 18)) (j+1)=if i/2^j%2=0 then ia ((j+1:Nat):Int) (dA i P (combine i (cN i m C 18)) j) (P.getD j 0) else ia ((j+1:Nat):Int) (P.getD j 0) (dA i P (combine i (cN i m C 18)) j):=rfl
  generalize i/2^j=q at *
  generalize hx:dA i P (combine i (cN i m C 18)) j=x at *
  by_cases h2:q%2=0
  ·rw [if_pos h2] at hc
   generalize q%2=q2 at *
   refine a6<|zS<|zB 1<|zP 1 [yH [(3,yV (aw (u64 (↑j:Int)))),(4,yV (ai ↑q)),(5,yV (ai ↑q2))]] [.aa [61,52,39,27,6,5,3,0,1,2,9,7] [5,3]] [yI (a8 ((↑j:Int))),yI (yc hs),yI OB,yI (yc ha)]<|du 61 ((↑q2:Int) == (0:Int)) fh<|zX (yH [(1,yV (ai (↑(j+1):Int))),(6,{k:=j}),(7,yV (aw (P.getD j 0))),(8,yV (aw (ia (↑(j+1):Int) x (P.getD j 0))))]) [yB (ai (IntKind.i64.wrap ((↑j:Int)+1))=ai (↑(j+1):Int)) (eG ag ag),yR (↑j:Int),yB (j<(aj P).length) (by simp only [aE];omega),yB ((aj P)[j]?=some (aw (P.getD j 0))) (eM ag),yI (lT (↑(j+1):Int) x (P.getD j 0))]<|aK<|al<|bf.QD {hs:=[(1,{av:=some (ai ((↑j:Int)+1))})]} (s':=AS.mk [(9,ai ((↑j:Int)+1)),(54,ai ((↑j:Int)+1)),(53,ai ↑j),(7,aw (ia (↑(j+1):Int) x (P.getD j 0))),(70,aw (ia (↑(j+1):Int) x (P.getD j 0))),(69,aw (P.getD j 0)),(68,AV.ptr (aj P) j),(67,ai ↑j),(66,AV.sl 1 (aj P)),(65,AV.addr 5 2),(64,aw x),(63,ai (↑(j+1):Int)),(62,ai ↑j),(61,ao ((↑q2:Int) == (0:Int))),(52,ao (decide ((↑j:Int)<(↑k:Int)))),(39,ao ((↑P.length:Int) != (↑k:Int))),(27,ao (decide ((↑i:Int)≥(↑((2:Nat)^k):Int)))),(6,ai 0),(5,AV.addr 5 0),(3,AV.addr 3 0),(0,AV.agg [ai ↑k,aw r]),(1,aw m),(2,AV.agg [ai ↑i,AV.sl 1 (aj C),AV.sl 1 (aj P)])] [(5,Row.mk 1 false true [ai ↑i,AV.sl 1 (aj C),AV.sl 1 (aj P)]),(3,Row.mk 1 false true [ai ↑k,aw r])]) (C:=[ai (IntKind.i64.wrap ((↑j:Int)+1))=ai ((↑j:Int)+1)]) bC ⟨(eG ag ag),trivial⟩ (aF (j+1) ag ag (eX [.aa [39,27,6,5,3,0,1,2,9,7] [5,3]] [7] [] [yB (aw (ia (↑(j+1):Int) x (P.getD j 0))=aw (dA i P (combine (↑i:Int) (cN (↑i:Int) m C 18)) (j+1))) (by rw [hc])]))
  ·rw [if_neg h2] at hc
   generalize q%2=q2 at *
   refine a6<|zS<|zB 1<|zP 1 [yH [(3,yV (aw (u64 (↑j:Int)))),(4,yV (ai ↑q)),(5,yV (ai ↑q2))]] [.aa [61,52,39,27,6,5,3,0,1,2,9,7] [5,3]] [yI (a8 ((↑j:Int))),yI (yc hs),yI OB,yI (yc ha)]<|bj 61 ((↑q2:Int) == (0:Int)) bx<|zX (yH [(1,yV (ai (↑(j+1):Int))),(5,{k:=j}),(6,yV (aw (P.getD j 0))),(8,yV (aw (ia (↑(j+1):Int) (P.getD j 0) x)))]) [yB (ai (IntKind.i64.wrap ((↑j:Int)+1))=ai (↑(j+1):Int)) (eG ag ag),yR (↑j:Int),yB (j<(aj P).length) (by simp only [aE];omega),yB ((aj P)[j]?=some (aw (P.getD j 0))) (eM ag),yI (lT (↑(j+1):Int) (P.getD j 0) x)]<|aK<|al<|zX (yH [(1,yV (ai ((↑j:Int)+1)))]) [yN ((↑j:Int)+1)] (aF (j+1) ag ag (eX [.aa [39,27,6,5,3,0,1,2,9,7] [5,3]] [7] [] [yB (aw (ia (↑(j+1):Int) (P.getD j 0) x)=aw (dA i P (combine (↑i:Int) (cN (↑i:Int) m C 18)) (j+1))) (by rw [hc])]))
 ·have e:j=k:=ag
  subst e
  by_cases kv:dA i P (combine i (cN i m C 18)) j=r
  ·rw [if_pos kv]
   refine zE 0<|a7<|aP<|bp<|al<|zS<|zP 1 [yH [(3,yV (ao (dA i P (combine (↑i:Int) (cN (↑i:Int) m C 18)) j != r)))]] [.aa [83,52,39,27,6,5,3,0,1,2,9,7] [5,3]] [yI (cK (dA i P (combine (↑i:Int) (cN (↑i:Int) m C 18)) j) r)]<|bj 83 (dA i P (combine (↑i:Int) (cN (↑i:Int) m C 18)) j != r) (by simp_all)<|a6<|zq<|zR (bL)
  ·rw [if_neg kv]
   refine zE 0<|a7<|aP<|bp<|al<|zS<|zP 1 [yH [(3,yV (ao (dA i P (combine (↑i:Int) (cN (↑i:Int) m C 18)) j != r)))]] [.aa [83,52,39,27,6,5,3,0,1,2,9,7] [5,3]] [yI (cK (dA i P (combine (↑i:Int) (cN (↑i:Int) m C 18)) j) r)]<|du 83 (dA i P (combine (↑i:Int) (cN (↑i:Int) m C 18)) j != r) (by simp_all)<|zq<|dk (bL)
theorem DZ (m:Mem) (h:List UInt8):bA Tryz.prog 111 [.agg (aN m),.ptr [di h] 0] (ao (m.name == h)):=by
 refine zO Tryz.func111 8<|zP 2 [{},yH [(3,yV (ao (m.name == h)))]] [.aa [3,2,0,1] [2]] [yI (eY m.name h)]<|zR (bL)
theorem D5 (l:List Mem) (h:List UInt8) (xc:l.length≤1000000):bA Tryz.prog 110 [.sl 4 (ae aN l),.lu 111 [.ptr [di h] 0]] (ai (cT l h)):=by
 have hl:(ae aN l).length=l.length*4:=aA (e:=4) (fun _=>rfl) ..
 refine zO Tryz.func110 19<|zq<|zS<|zQ 1 [yH [(1,{k:=l.length})]] [yI hl]<|zB 0 (zL (fun (i:Nat)=>(⟨[(7,ai (↑l.length:Int)),(0,AV.sl 4 (ae aN l)),(1,AV.lu 111 [AV.ptr [di h] 0]),(8,ai i)],[]⟩:AS)) (fun i=>(i≤l.length∧ ∀j,j<i->(l.getD j default).name≠h)) (fun i=>(l.length-i)) (0) ?_ (zW [.aa [7,0,1,8] []]) ?_)
 ·exact ⟨ag,ag⟩
 rintro i ⟨hi,fO⟩
 refine zq<|zS (zD 9 ((↑i:Int)<(↑l.length:Int)) (fun g=>?_) (fun g=>?_))
 ·have dc:i<l.length:=ag
  have hc:=DZ (l.getD i default) h
  by_cases e:(l.getD i default).name=h
  ·have hf:=zm dc fO e
   refine a6<|zS<|zB 1<|zP 2 [{},yH [(3,{k:=i}),(4,yV (AV.agg (aN (l.getD i default)))),(5,yC hc)]] [.aa [16,5,9,7,0,1,8] []] [yR (↑i:Int),yO (i*4<(ae aN l).length),yu aN l i 0 4,yR 4,yI hc]<|du 16 ((l.getD i default).name == h) (by simp_all)<|zq<|zR<|ba<|aI<|dh<|ba<|aI (zV [yJ (↑i:Int) (cT l h) (by rw [hf])])
  ·skip
   refine a6<|zS<|zB 1<|zP 2 [{},yH [(3,{k:=i}),(4,yV (AV.agg (aN (l.getD i default)))),(5,yC hc)]] [.aa [16,5,9,7,0,1,8] []] [yR (↑i:Int),yO (i*4<(ae aN l).length),yu aN l i 0 4,yR 4,yI hc]<|bj 16 ((l.getD i default).name == h) (by simp_all)<|zK<|aK<|al<|zX (yH [(0,yV (ai ((↑i:Int)+1)))]) [yN ((↑i:Int)+1)] (aF (i+1) ⟨ag,fun j hj=>by by_cases e2:j=i;(subst e2;exact e);exact fO j ag⟩ ag (zW [.aa [7,0,1,8] []]))
 ·have hf:=zk (l:=l) (h:=h) (fun j hj=>fO j ag)
  refine zE 0<|a7<|aP<|bp<|al<|zq<|zR (zV [yJ (-1:Int) (cT l h) (by rw [hf])])
theorem oi (g:fG) (h:List UInt8) (xc:g.aq.length≤1000000):bA Tryz.prog 61 [.agg (de g),di h] (ai (cT g.aq h)):=by
 refine zO Tryz.func61 9<|zP 2 [{},yH [(3,yV (ai (cT g.aq h)))]] [.aa [4,3,2,0,1] [2]] [yI (D5 g.aq h xc)]<|zR (bL)
theorem mM (l:List Mem) (h:List UInt8) (xc:l.length≤1000000):bA Tryz.prog 64 [.sl 4 (ae aN l),di h] (ai (cT l h)):=by
 have hl:(ae aN l).length=l.length*4:=aA (e:=4) (fun _=>rfl) ..
 refine zO Tryz.func64 20<|zq<|zS<|zq<|zB 0 (zL (fun (i:Nat)=>(⟨[(0,AV.sl 4 (ae aN l)),(1,di h),(5,ai i)],[]⟩:AS)) (fun i=>(i≤l.length∧ ∀j,j<i->(l.getD j default).name≠h)) (fun i=>(l.length-i)) (0) ?_ (zW [.aa [0,1,5] []]) ?_)
 ·exact ⟨ag,ag⟩
 rintro i ⟨hi,fO⟩
 refine zS<|zP 1 [yH [(2,{k:=l.length})]] [.aa [9,0,1,5] []] [yI hl] (zD 9 ((↑i:Int)<(↑l.length:Int)) (fun g=>?_) (fun g=>?_))
 ·have dc:i<l.length:=ag
  by_cases e:(l.getD i default).name=h
  ·have hf:=zm dc fO e
   refine a6<|zS<|zB 1<|zP 1 [yH [(2,{k:=i}),(4,yV (di (l.getD i default).name)),(6,yV (ao ((l.getD i default).name == h)))]] [.aa [18,9,0,1,5] []] [yR (↑i:Int),yO (i*4<(ae aN l).length),yA aN l i 0,yI (eY ((l.getD i default).name) h)]<|du 18 ((l.getD i default).name == h) (by simp_all)<|zq<|zR<|ba<|aI<|dh<|ba<|aI (zV [yJ (↑i:Int) (cT l h) (by rw [hf])])
  ·skip
   refine a6<|zS<|zB 1<|zP 1 [yH [(2,{k:=i}),(4,yV (di (l.getD i default).name)),(6,yV (ao ((l.getD i default).name == h)))]] [.aa [18,9,0,1,5] []] [yR (↑i:Int),yO (i*4<(ae aN l).length),yA aN l i 0,yI (eY ((l.getD i default).name) h)]<|bj 18 ((l.getD i default).name == h) (by simp_all)<|zK<|aK<|al<|zX (yH [(1,yV (ai ((↑i:Int)+1)))]) [yN ((↑i:Int)+1)] (aF (i+1) ⟨ag,fun j hj=>by by_cases e2:j=i;(subst e2;exact e);exact fO j ag⟩ ag (zW [.aa [0,1,5] []]))
 ·have hf:=zk (l:=l) (h:=h) (fun j hj=>fO j ag)
  refine zE 0<|a7<|aP<|bp<|al<|zq<|zR (zV [yJ (-1:Int) (cT l h) (by rw [hf])])
def EB (l:List oD) (p:UInt64):Int:=if ug l p<l.length then (ug l p:Int) else -1
theorem qv (l:List oD) (p:UInt64) (xc:l.length≤1000000):bA Tryz.prog 112 [.sl 7 (ae bk l),aw p] (ai (EB l p)):=by
 have hl:(ae bk l).length=l.length*7:=aA (e:=7) (fun _=>rfl) ..
 refine zO Tryz.func112 20<|zq<|zS<|zq<|zB 0 (zL (fun (i:Nat)=>(⟨[(0,AV.sl 7 (ae bk l)),(1,aw p),(5,ai i)],[]⟩:AS)) (fun i=>(i≤l.length∧ ∀j,j<i->(l.getD j default).cm≠p)) (fun i=>(l.length-i)) (0) ?_ (zW [.aa [0,1,5] []]) ?_)
 ·exact ⟨ag,ag⟩
 rintro i ⟨hi,fO⟩
 refine zS<|zP 1 [yH [(2,{k:=l.length})]] [.aa [9,0,1,5] []] [yI hl] (zD 9 ((↑i:Int)<(↑l.length:Int)) (fun g=>?_) (fun g=>?_))
 ·have dc:i<l.length:=ag
  by_cases e:(l.getD i default).cm=p
  ·have hf:=Kg dc fO e
   refine a6<|zS<|zB 1<|zP 1 [yH [(2,{k:=i}),(4,yV (aw ((l.getD i default).cm))),(6,yV (ao ((l.getD i default).cm == p)))]] [.aa [18,9,0,1,5] []] [yR (↑i:Int),yO (i*7<(ae bk l).length),yA bk l i 0,yI (fK ((l.getD i default).cm) p)]<|du 18 ((l.getD i default).cm == p) fh<|zq<|zR<|ba<|aI<|dh<|ba<|aI (zV [yJ (↑i:Int) (EB l p) (by unfold EB;rw [hf,if_pos dc])])
  ·skip
   refine a6<|zS<|zB 1<|zP 1 [yH [(2,{k:=i}),(4,yV (aw ((l.getD i default).cm))),(6,yV (ao ((l.getD i default).cm == p)))]] [.aa [18,9,0,1,5] []] [yR (↑i:Int),yO (i*7<(ae bk l).length),yA bk l i 0,yI (fK ((l.getD i default).cm) p)]<|bj 18 ((l.getD i default).cm == p) bx<|zK<|aK<|al<|zX (yH [(1,yV (ai ((↑i:Int)+1)))]) [yN ((↑i:Int)+1)] (aF (i+1) ⟨ag,fun j hj=>by by_cases e2:j=i;(subst e2;exact e);exact fO j ag⟩ ag (zW [.aa [0,1,5] []]))
 ·have hf:=Kf (l:=l) (p:=p) (fun j hj=>fO j ag)
  refine zE 0<|a7<|aP<|bp<|al<|zq<|zR (zV [yJ (-1:Int) (EB l p) (by unfold EB;rw [hf,if_neg (Nat.lt_irrefl _)])])
theorem jF {l:List gW} {i:Nat} (h:i<l.length):List.take 4 (List.drop (i*4) (ae aW l))=aW (l.getD i default):=jz (e:=4) (fun _=>rfl) h
theorem pS {l:List Mem} {n:List UInt8} {k:Nat} (h:cT l n=k):L3 l n=l.getD k default:=by unfold L3;rw [h];rfl
def I1 (l:List gW) (i:Nat):Prop:=0<i∧xT (l.getD i default).name (l.getD (i-1) default).name=true
theorem Qt {g:fG} {w:UInt64} {l:List gW} {i:Nat} (h:I1 l i):iJ g w l i=7:=if_pos h
theorem M_ {g:fG} {w:UInt64} {l:List gW} {i:Nat} (h:¬I1 l i) (h2:cT g.aq (l.getD i default).name<0):iJ g w l i=11:=(if_neg h).trans (if_pos h2)
section
variable {g:fG} {w:UInt64} {l:List gW} {i k:Nat} (h:¬I1 l i) (h2:cT g.aq (l.getD i default).name=k)
include h h2
theorem H9 {e:Int} (he:kM (g.aq.getD k default).h (g.aq.getD k default).r w (l.getD i default).leaf (l.getD i default).fb (l.getD i default).path=e) (h0:e≠0):iJ g w l i=e:=by
 refine (if_neg h).trans ?_;rw [if_neg ag,pS h2,he,if_pos h0]
theorem yx (he:kM (g.aq.getD k default).h (g.aq.getD k default).r w (l.getD i default).leaf (l.getD i default).fb (l.getD i default).path=0):iJ g w l i=if (g.aq.getD k default).used&&&gJ (l.getD i default).leaf≠0 then 37 else 0:=by
 refine (if_neg h).trans ?_;rw [if_neg ag,pS h2,he,if_neg ag]
end
theorem lC {g:fG} {w:UInt64} {l:List gW} {i:Nat} (hi:i<l.length) (h0:ff (iJ g w l) i=0) {e:Int} (he:iJ g w l i=e) (hn:e≠0):fH g w l=e:=by
 have k2:ff (iJ g w l) (i+1)=e:=by show (if _ then _ else _)=_;rw [if_neg ag,he]
 have:=kz hn k2 l.length hi
 unfold fH
 rw [this,if_pos hn]
theorem KW (g:fG) (w:UInt64) (V:List gW) (hm:g.aq.length≤1000) (hv:V.length≤1000000):bA Tryz.prog 58 [.agg (de g),.sl 4 (ae aW V),aw w] (ai (fH g w V)):=by
 have xW:(ae aW V).length=V.length*4:=aA (e:=4) (fun _=>rfl) ..
 have nF:(ae aN g.aq).length=g.aq.length*4:=aA (e:=4) (fun _=>rfl) ..
 refine zO Tryz.func58 68<|zq<|zS<|zQ 1 [yH [(1,{k:=V.length})]] [yI xW]<|zB 0 (zL (fun (i:Nat)=>(⟨[(12,ai (↑V.length:Int)),(11,AV.sl 4 (ae aW V)),(3,AV.addr 3 0),(0,AV.agg (de g)),(1,AV.sl 4 (ae aW V)),(2,aw w),(13,ai i)],[(3,⟨1,false,true,List.map (aH 3) (de g)⟩)]⟩:AS)) (fun i=>(i≤V.length∧ff (iJ g w V) i=0)) (fun i=>(V.length-i)) (0) ?_ (zW [.aa [12,11,3,0,1,2,13] [3]]) ?_)
 ·exact ⟨ag,rfl⟩
 rintro i ⟨hi,h0⟩
 refine zq<|zS (zD 14 ((↑i:Int)<(↑V.length:Int)) (fun q=>?_) (fun q=>?_))
 ·have dc:i<V.length:=ag
  have ic:=jF dc
  refine a6<|zS<|zB 1<|zP 1 [yH [(1,{k:=i}),(2,yV (AV.agg (aW (V.getD i default))))]] [.aa [7,8,14,12,11,3,0,1,2,13] [8,3]] [yR (↑i:Int),yO (i*4<(ae aW V).length),yu aW V i 0 4,yR 4,yL 4 4] (bf.pr (fun (u:Unit)=>(⟨[(7,ai ↑i),(8,AV.addr 8 0),(14,ao (decide ((↑i:Int)<(↑V.length:Int)))),(12,ai (↑V.length:Int)),(11,AV.sl 4 (ae aW V)),(3,AV.addr 3 0),(0,AV.agg (de g)),(1,AV.sl 4 (ae aW V)),(2,aw w),(13,ai ↑i)],[(8,⟨1,false,true,(aW (V.getD i default))⟩),(3,⟨1,false,true,List.map (aH 8) (List.map (aH 3) (de g))⟩)]⟩:AS)) (fun u=>(¬I1 V i)) bC ?_ ?_)
  ·by_cases c6:0<i
   ·obtain ⟨k,hk⟩:∃k,k+1=i:=⟨i-1,ag⟩
    have zH:=jF (l:=V) (i:=k) ag
    have ek:i-1=k:=ag
    by_cases c7:xT (V.getD i default).name (V.getD k default).name=true
    ·have k1:=lC dc h0 (Qt (g:=g) (w:=w) ⟨c6,by rw [ek];exact c7⟩) ag
     refine zP 1 [{hs:=[(7,yV (ai ↑k)),(8,{k:=k}),(10,yV (di (V.getD k default).name))],T:=11}] [.aa [30,7,8,14,12,11,3,0,1,2,13] [8,3]] (yM 5 (yT ((↑i:Int)>0))++ [yB (ai (IntKind.i64.wrap ((↑i:Int)-1))=ai ↑k) (congrArg (fun n=>AV.val (.int .i64 n)) (by rw [IntKind.wrap_i64];omega)),yT ((↑i:Int)>0),yR (↑k:Int),yO (k*4<(ae aW V).length)]++yM 2 (yT ((↑i:Int)>0))++ [yA aW V k 0]++yM 2 (yT ((↑i:Int)>0)))<|du 30 (Op.bytesLess (ByteArray.mk (V.getD i default).name.toArray).toList (ByteArray.mk (V.getD k default).name.toArray).toList || (ByteArray.mk (V.getD i default).name.toArray).toList == (ByteArray.mk (V.getD k default).name.toArray).toList) (by assumption)<|zq<|dk<|ba<|aI<|dh<|ba<|aI (zV [yJ 7 (fH g w V) (by rw [k1])])
    ·have c9:xT (V.getD i default).name (V.getD k default).name=false:=by simpa using c7
     refine zP 1 [{hs:=[(7,yV (ai ↑k)),(8,{k:=k}),(10,yV (di (V.getD k default).name))],T:=11}] [.aa [30,7,8,14,12,11,3,0,1,2,13] [8,3]] (yM 5 (yT ((↑i:Int)>0))++ [yB (ai (IntKind.i64.wrap ((↑i:Int)-1))=ai ↑k) (congrArg (fun n=>AV.val (.int .i64 n)) (by rw [IntKind.wrap_i64];omega)),yT ((↑i:Int)>0),yR (↑k:Int),yO (k*4<(ae aW V).length)]++yM 2 (yT ((↑i:Int)>0))++ [yA aW V k 0]++yM 2 (yT ((↑i:Int)>0)))<|bj 30 (Op.bytesLess (ByteArray.mk (V.getD i default).name.toArray).toList (ByteArray.mk (V.getD k default).name.toArray).toList || (ByteArray.mk (V.getD i default).name.toArray).toList == (ByteArray.mk (V.getD k default).name.toArray).toList) (by assumption)<|a6 (⟨(),(fun q=>by have:=q.2;rw [ek] at this;exact c7 this),(zW [.aa [7,8,14,12,11,3,0,1,2,13] [8,3]])⟩)
   ·skip
    refine zP 1 [{hs:=[(3,{g:=false}),(4,{g:=false}),(5,{g:=false}),(6,{g:=false}),(7,{g:=false}),(8,{g:=false}),(9,{g:=false}),(10,{g:=false}),(11,{g:=false}),(12,{b:=false})],T:=11}] [.aa [30,7,8,14,12,11,3,0,1,2,13] [8,3]] (yM 10 (yF ((↑i:Int)>0)))<|zF 30<|a6 (⟨(),(fun q=>c6 q.1),(zW [.aa [7,8,14,12,11,3,0,1,2,13] [8,3]])⟩)
  intro u hu
  have jL:=oi g (V.getD i default).name ag
  rcases eN g.aq (V.getD i default).name with hk|⟨k,hk,gV,JT⟩
  ·have k1:=lC dc h0 (M_ (g:=g) (w:=w) hu ag) ag
   rw [hk] at jL
   refine zP 1 [yH [(3,yC jL)]] [.aa [9,7,8,14,12,11,3,0,1,2,13] [8,3]] [yI jL]<|zS<|zq<|gX 36 ((-1:Int)<0)<|zq<|dk<|ba<|aI<|dh<|ba<|aI (zV [yJ 11 (fH g w V) (by rw [k1])])
  have Tx:=oJ gV
  rw [hk] at jL
  have DM:=C6 (g.aq.getD k default).h (g.aq.getD k default).r w (V.getD i default).leaf (V.getD i default).fb (V.getD i default).path
  by_cases cv:kM (g.aq.getD k default).h (g.aq.getD k default).r w (V.getD i default).leaf (V.getD i default).fb (V.getD i default).path=0
  case neg =>
   have k1:=lC dc h0 (H9 hu hk rfl cv) cv
   refine zP 1 [yH [(3,yC jL)]] [.aa [9,7,8,14,12,11,3,0,1,2,13] [8,3]] [yI jL]<|zS<|zQ 1 [yH [(1,yV (ao false))]] [yR (ao false)]<|zF 36<|a6<|zS<|zP 2 [{hs:=[(3,{k:=k}),(5,yV (AV.agg [ai ((g.aq.getD k default).h),aw ((g.aq.getD k default).r)])),(9,yC DM)],T:=9},{}] [.aa [48,10,36,9,7,8,14,12,11,3,0,1,2,13] [8,3]] [yR (↑k:Int),yO (k*4<(ae aN g.aq).length),yu aN g.aq k 1 2,yR 2,yI DM]<|du 48 (kM (g.aq.getD k default).h (g.aq.getD k default).r w (V.getD i default).leaf (V.getD i default).fb (V.getD i default).path != (0:Int)) (by simp_all)<|zP 1 [{}] [.aa [6,48,10,36,9,7,8,14,12,11,3,0,1,2,13] [8,3]] []<|dk<|ba<|aI<|dh<|ba<|aI (zV [yJ (kM (g.aq.getD k default).h (g.aq.getD k default).r w (V.getD i default).leaf (V.getD i default).fb (V.getD i default).path) (fH g w V) (by rw [k1])])
  have JO:=uH cv
  have hr:=yx hu hk cv
  rw [cv] at DM
  by_cases cu:(g.aq.getD k default).used&&&gJ (V.getD i default).leaf=0
  ·rw [if_neg (fun q=>q cu)] at hr
   refine zP 1 [yH [(3,yC jL)]] [.aa [9,7,8,14,12,11,3,0,1,2,13] [8,3]] [yI jL]<|zS<|zq<|dm 36 ((↑k:Int)<0)<|a6<|zS<|zP 2 [{hs:=[(3,{k:=k}),(5,yV (AV.agg [ai ((g.aq.getD k default).h),aw ((g.aq.getD k default).r)])),(9,yC DM)],T:=9},{}] [.aa [48,10,36,9,7,8,14,12,11,3,0,1,2,13] [8,3]] [yR (↑k:Int),yO (k*4<(ae aN g.aq).length),yu aN g.aq k 1 2,yR 2,yI DM]<|zF 48<|a6<|zP 1 [{hs:=[(3,{k:=k}),(5,yV (aw ((g.aq.getD k default).used))),(9,yV (aw (gJ (V.getD i default).leaf))),(10,yV (aw ((g.aq.getD k default).used&&&gJ (V.getD i default).leaf))),(11,yV (ao false))],T:=10}] [.aa [61,48,10,36,9,7,8,14,12,11,3,0,1,2,13] [8,3]] [yR (↑k:Int),yO (k*4<(ae aN g.aq).length),yA aN g.aq k 3,yB (AV.val (Value.int .u64 (IntKind.u64.wrap ((1:Int)*(2:Int)^min (V.getD i default).leaf.toNat IntKind.u64.bits)))=aw (gJ (V.getD i default).leaf)) (jP 1 _ JO.1 ag),yO ((0:Int)≤(V.getD i default).leaf),yI (je ((g.aq.getD k default).used) (gJ (V.getD i default).leaf)),yB (ao (wv ((g.aq.getD k default).used&&&gJ (V.getD i default).leaf) != (0:Int))=ao false) (by rw [cu];rfl)]<|zF 61<|zK<|aK<|al<|zX (yH [(0,yV (ai ((↑i:Int)+1)))]) [yN ((↑i:Int)+1)] (aF (i+1) ⟨ag,by show (if _ then _ else _)=_;rw [if_neg ag,hr]⟩ ag (zW [.aa [12,11,3,0,1,2,13] [3]]))
  ·rw [if_pos cu] at hr
   have k1:=lC dc h0 hr ag
   refine zP 1 [yH [(3,yC jL)]] [.aa [9,7,8,14,12,11,3,0,1,2,13] [8,3]] [yI jL]<|zS<|zq<|dm 36 ((↑k:Int)<0)<|a6<|zS<|zP 2 [{hs:=[(3,{k:=k}),(5,yV (AV.agg [ai ((g.aq.getD k default).h),aw ((g.aq.getD k default).r)])),(9,yC DM)],T:=9},{}] [.aa [48,10,36,9,7,8,14,12,11,3,0,1,2,13] [8,3]] [yR (↑k:Int),yO (k*4<(ae aN g.aq).length),yu aN g.aq k 1 2,yR 2,yI DM]<|zF 48<|a6<|zP 1 [{hs:=[(3,{k:=k}),(5,yV (aw ((g.aq.getD k default).used))),(9,yV (aw (gJ (V.getD i default).leaf))),(10,yV (aw ((g.aq.getD k default).used&&&gJ (V.getD i default).leaf))),(11,yV (ao ((g.aq.getD k default).used&&&gJ (V.getD i default).leaf != 0)))],T:=10}] [.aa [61,48,10,36,9,7,8,14,12,11,3,0,1,2,13] [8,3]] [yR (↑k:Int),yO (k*4<(ae aN g.aq).length),yA aN g.aq k 3,yB (AV.val (Value.int .u64 (IntKind.u64.wrap ((1:Int)*(2:Int)^min (V.getD i default).leaf.toNat IntKind.u64.bits)))=aw (gJ (V.getD i default).leaf)) (jP 1 _ JO.1 ag),yO ((0:Int)≤(V.getD i default).leaf),yI (je ((g.aq.getD k default).used) (gJ (V.getD i default).leaf)),yI (cK ((g.aq.getD k default).used&&&gJ (V.getD i default).leaf) 0)]<|du 61 ((g.aq.getD k default).used&&&gJ (V.getD i default).leaf != 0) (by simp_all)<|zq<|zR<|ba<|aI<|dh<|ba<|aI (zV [yJ 37 (fH g w V) (by rw [k1])])
 ·have e:i=V.length:=ag
  subst e
  refine zE 0<|a7<|aP<|bp<|al<|zS<|zP 1 [yH [(1,{k:=V.length})]] [.aa [67,14,12,11,3,0,1,2,13] [3]] [yI xW] (zD 67 ((↑V.length:Int)<g.bm) (fun q2=>?_) (fun q2=>?_))
  ·skip
   refine zq<|dk (zV [yJ 41 (fH g w V) (by unfold fH;rw [if_neg ag,if_pos ag])])
  ·skip
   refine a6<|zq<|zR (zV [yJ 0 (fH g w V) (by unfold fH;rw [if_neg ag,if_neg ag])])
theorem y0 (g:fG) (w:UInt64) (V:List gW) (hm:g.aq.length≤1000) (hv:V.length≤1000000):bA Tryz.prog 62 [.agg (de g),.sl 4 (ae aW V),aw w] (ai (fH g w V)):=by
 have xW:(ae aW V).length=V.length*4:=aA (e:=4) (fun _=>rfl) ..
 have nF:(ae aN g.aq).length=g.aq.length*4:=aA (e:=4) (fun _=>rfl) ..
 refine zO Tryz.func62 79<|zq<|zS<|zq<|zB 0 (zL (fun (i:Nat)=>(⟨[(3,AV.addr 3 0),(0,AV.agg (de g)),(1,AV.sl 4 (ae aW V)),(2,aw w),(7,ai i)],[(3,⟨1,false,true,List.map (aH 3) (de g)⟩)]⟩:AS)) (fun i=>(i≤V.length∧ff (iJ g w V) i=0)) (fun i=>(V.length-i)) (0) ?_ (zW [.aa [3,0,1,2,7] [3]]) ?_)
 ·exact ⟨ag,rfl⟩
 rintro i ⟨hi,h0⟩
 refine zS<|zP 1 [yH [(2,{k:=V.length})]] [.aa [13,3,0,1,2,7] [3]] [yI xW] (zD 13 ((↑i:Int)<(↑V.length:Int)) (fun q=>?_) (fun q=>?_))
 ·have dc:i<V.length:=ag
  have ic:=jF dc
  refine a6<|zS<|zB 1 (bf.pr (fun (u:Unit)=>(⟨[(13,ao (decide ((↑i:Int)<(↑V.length:Int)))),(3,AV.addr 3 0),(0,AV.agg (de g)),(1,AV.sl 4 (ae aW V)),(2,aw w),(7,ai ↑i)],[(3,⟨1,false,true,List.map (aH 3) (de g)⟩)]⟩:AS)) (fun u=>(¬I1 V i)) bC ?_ ?_)
  ·by_cases c6:0<i
   ·obtain ⟨k,hk⟩:∃k,k+1=i:=⟨i-1,ag⟩
    have zH:=jF (l:=V) (i:=k) ag
    have ek:i-1=k:=ag
    by_cases c7:xT (V.getD i default).name (V.getD k default).name=true
    ·have k1:=lC dc h0 (Qt (g:=g) (w:=w) ⟨c6,by rw [ek];exact c7⟩) ag
     refine zP 1 [{hs:=[(5,{k:=i}),(7,yV (di (V.getD i default).name)),(10,yV (ai ↑k)),(11,{k:=k}),(13,yV (di (V.getD k default).name))],T:=14}] [.aa [31,13,3,0,1,2,7] [3]] (yM 3 (yT ((↑i:Int)>0))++ [yR (↑i:Int),yO (i*4<(ae aW V).length)]++yM 2 (yT ((↑i:Int)>0))++ [yA aW V i 0]++yM 3 (yT ((↑i:Int)>0))++ [yB (ai (IntKind.i64.wrap ((↑i:Int)-1))=ai ↑k) (congrArg (fun n=>AV.val (.int .i64 n)) (by rw [IntKind.wrap_i64];omega)),yT ((↑i:Int)>0),yR (↑k:Int),yO (k*4<(ae aW V).length)]++yM 2 (yT ((↑i:Int)>0))++ [yA aW V k 0]++yM 2 (yT ((↑i:Int)>0)))<|du 31 (Op.bytesLess (ByteArray.mk (V.getD i default).name.toArray).toList (ByteArray.mk (V.getD k default).name.toArray).toList || (ByteArray.mk (V.getD i default).name.toArray).toList == (ByteArray.mk (V.getD k default).name.toArray).toList) (by assumption)<|zq<|dk<|ba<|aI<|dh<|ba<|aI (zV [yJ 7 (fH g w V) (by rw [k1])])
    ·have c9:xT (V.getD i default).name (V.getD k default).name=false:=by simpa using c7
     refine zP 1 [{hs:=[(5,{k:=i}),(7,yV (di (V.getD i default).name)),(10,yV (ai ↑k)),(11,{k:=k}),(13,yV (di (V.getD k default).name))],T:=14}] [.aa [31,13,3,0,1,2,7] [3]] (yM 3 (yT ((↑i:Int)>0))++ [yR (↑i:Int),yO (i*4<(ae aW V).length)]++yM 2 (yT ((↑i:Int)>0))++ [yA aW V i 0]++yM 3 (yT ((↑i:Int)>0))++ [yB (ai (IntKind.i64.wrap ((↑i:Int)-1))=ai ↑k) (congrArg (fun n=>AV.val (.int .i64 n)) (by rw [IntKind.wrap_i64];omega)),yT ((↑i:Int)>0),yR (↑k:Int),yO (k*4<(ae aW V).length)]++yM 2 (yT ((↑i:Int)>0))++ [yA aW V k 0]++yM 2 (yT ((↑i:Int)>0)))<|bj 31 (Op.bytesLess (ByteArray.mk (V.getD i default).name.toArray).toList (ByteArray.mk (V.getD k default).name.toArray).toList || (ByteArray.mk (V.getD i default).name.toArray).toList == (ByteArray.mk (V.getD k default).name.toArray).toList) (by assumption)<|a6 (⟨(),(fun q=>by have:=q.2;rw [ek] at this;exact c7 this),(zW [.aa [13,3,0,1,2,7] [3]])⟩)
   ·skip
    refine zP 1 [{hs:=[(3,{g:=false}),(4,{g:=false}),(5,{g:=false}),(6,{g:=false}),(7,{g:=false}),(8,{g:=false}),(9,{g:=false}),(10,{g:=false}),(11,{g:=false}),(12,{g:=false}),(13,{g:=false}),(14,{g:=false}),(15,{b:=false})],T:=14}] [.aa [31,13,3,0,1,2,7] [3]] (yM 13 (yF ((↑i:Int)>0)))<|zF 31<|a6 (⟨(),(fun q=>c6 q.1),(zW [.aa [13,3,0,1,2,7] [3]])⟩)
  intro u hu
  have jL:=mM g.aq (V.getD i default).name ag
  rcases eN g.aq (V.getD i default).name with hk|⟨k,hk,gV,JT⟩
  ·have k1:=lC dc h0 (M_ (g:=g) (w:=w) hu ag) ag
   rw [hk] at jL
   refine zP 1 [{hs:=[(4,{k:=i}),(6,yV (di (V.getD i default).name)),(7,yC jL)],T:=7}] [.aa [8,13,3,0,1,2,7] [3]] [yR (↑i:Int),yO (i*4<(ae aW V).length),yA aW V i 0,yI jL]<|zS<|zq<|gX 41 ((-1:Int)<0)<|zq<|dk<|ba<|aI<|dh<|ba<|aI (zV [yJ 11 (fH g w V) (by rw [k1])])
  have Tx:=oJ gV
  rw [hk] at jL
  have DM:=pf (g.aq.getD k default).h (g.aq.getD k default).r w (V.getD i default).leaf (V.getD i default).fb (V.getD i default).path
  by_cases cv:kM (g.aq.getD k default).h (g.aq.getD k default).r w (V.getD i default).leaf (V.getD i default).fb (V.getD i default).path=0
  case neg =>
   have k1:=lC dc h0 (H9 hu hk rfl cv) cv
   refine zP 1 [{hs:=[(4,{k:=i}),(6,yV (di (V.getD i default).name)),(7,yC jL)],T:=7}] [.aa [8,13,3,0,1,2,7] [3]] [yR (↑i:Int),yO (i*4<(ae aW V).length),yA aW V i 0,yI jL]<|zS<|zQ 1 [yH [(1,yV (ao false))]] [yR (ao false)]<|zF 41<|a6<|zS<|zP 2 [{hs:=[(3,{k:=k}),(5,yV (AV.agg [ai ((g.aq.getD k default).h),aw ((g.aq.getD k default).r)])),(9,{k:=i}),(11,yV (AV.agg [ai ((V.getD i default).leaf),AV.sl 1 (aj (V.getD i default).fb),AV.sl 1 (aj (V.getD i default).path)])),(12,yC DM)],T:=12},{}] [.aa [56,9,41,8,13,3,0,1,2,7] [3]] [yR (↑k:Int),yO (k*4<(ae aN g.aq).length),yu aN g.aq k 1 2,yR 2,yR (↑i:Int),yO (i*4<(ae aW V).length),yu aW V i 1 3,yR 3,yI DM]<|du 56 (kM (g.aq.getD k default).h (g.aq.getD k default).r w (V.getD i default).leaf (V.getD i default).fb (V.getD i default).path != (0:Int)) (by simp_all)<|zP 1 [{}] [.aa [6,56,9,41,8,13,3,0,1,2,7] [3]] []<|dk<|ba<|aI<|dh<|ba<|aI (zV [yJ (kM (g.aq.getD k default).h (g.aq.getD k default).r w (V.getD i default).leaf (V.getD i default).fb (V.getD i default).path) (fH g w V) (by rw [k1])])
  have JO:=uH cv
  have hr:=yx hu hk cv
  rw [cv] at DM
  obtain ⟨z,hz,Oz⟩:∃z:Nat,(V.getD i default).leaf=z∧z<16:=⟨(V.getD i default).leaf.toNat,ag,ag⟩
  have QR:IntKind.u64.wrap (V.getD i default).leaf=(z:Int):=by rw [hz,IntKind.wrap_u64];omega
  have FY:=PG (g.aq.getD k default).used z ag
  have VW:gJ (V.getD i default).leaf=(1:UInt64)<<<UInt64.ofNat z:=by unfold gJ;rw [hz];rfl
  rw [VW] at hr
  by_cases cu:(g.aq.getD k default).used&&&((1:UInt64)<<<UInt64.ofNat z)=0
  ·rw [if_neg (fun q=>q cu)] at hr
   have cs:((((g.aq.getD k default).used>>>UInt64.ofNat z)&&&1) == 1)=false:=beq_eq_false_iff_ne.2 fun q=>FY.1 q cu
   refine zP 1 [{hs:=[(4,{k:=i}),(6,yV (di (V.getD i default).name)),(7,yC jL)],T:=7}] [.aa [8,13,3,0,1,2,7] [3]] [yR (↑i:Int),yO (i*4<(ae aW V).length),yA aW V i 0,yI jL]<|zS<|zq<|dm 41 ((↑k:Int)<0)<|a6<|zS<|zP 2 [{hs:=[(3,{k:=k}),(5,yV (AV.agg [ai ((g.aq.getD k default).h),aw ((g.aq.getD k default).r)])),(9,{k:=i}),(11,yV (AV.agg [ai ((V.getD i default).leaf),AV.sl 1 (aj (V.getD i default).fb),AV.sl 1 (aj (V.getD i default).path)])),(12,yC DM)],T:=12},{}] [.aa [56,9,41,8,13,3,0,1,2,7] [3]] [yR (↑k:Int),yO (k*4<(ae aN g.aq).length),yu aN g.aq k 1 2,yR 2,yR (↑i:Int),yO (i*4<(ae aW V).length),yu aW V i 1 3,yR 3,yI DM]<|zF 56<|a6<|zP 1 [{hs:=[(3,{k:=k}),(5,yV (aw ((g.aq.getD k default).used))),(8,{k:=i}),(11,yV (ai ((V.getD i default).leaf))),(12,yV (AV.val (Value.int .u64 (↑z:Int)))),(13,yV (aw ((g.aq.getD k default).used>>>UInt64.ofNat z))),(14,yV (aw ((g.aq.getD k default).used>>>UInt64.ofNat z&&&(1:UInt64)))),(15,yV (ao ((g.aq.getD k default).used>>>UInt64.ofNat z&&&(1:UInt64) == 1)))],T:=13}] [.aa [73,56,9,41,8,13,3,0,1,2,7] [3]] [yR (↑k:Int),yO (k*4<(ae aN g.aq).length),yA aN g.aq k 3,yR (↑i:Int),yO (i*4<(ae aW V).length),yA aW V i 1,yI (yd QR),yI (fE ((g.aq.getD k default).used) ((↑z:Int)) ag ag),yO ((0:Int)≤(↑z:Int)),yI (je ((g.aq.getD k default).used>>>UInt64.ofNat z) 1),yI (fK ((g.aq.getD k default).used>>>UInt64.ofNat z&&&(1:UInt64)) 1)]<|bj 73 ((g.aq.getD k default).used>>>UInt64.ofNat z&&&(1:UInt64) == 1) (by assumption)<|zK<|aK<|al<|zX (yH [(1,yV (ai ((↑i:Int)+1)))]) [yN ((↑i:Int)+1)] (aF (i+1) ⟨ag,by show (if _ then _ else _)=_;rw [if_neg ag,hr]⟩ ag (zW [.aa [3,0,1,2,7] [3]]))
  ·rw [if_pos cu] at hr
   have k1:=lC dc h0 hr ag
   have cs:((((g.aq.getD k default).used>>>UInt64.ofNat z)&&&1) == 1)=true:=beq_iff_eq.2 (FY.2 cu)
   refine zP 1 [{hs:=[(4,{k:=i}),(6,yV (di (V.getD i default).name)),(7,yC jL)],T:=7}] [.aa [8,13,3,0,1,2,7] [3]] [yR (↑i:Int),yO (i*4<(ae aW V).length),yA aW V i 0,yI jL]<|zS<|zq<|dm 41 ((↑k:Int)<0)<|a6<|zS<|zP 2 [{hs:=[(3,{k:=k}),(5,yV (AV.agg [ai ((g.aq.getD k default).h),aw ((g.aq.getD k default).r)])),(9,{k:=i}),(11,yV (AV.agg [ai ((V.getD i default).leaf),AV.sl 1 (aj (V.getD i default).fb),AV.sl 1 (aj (V.getD i default).path)])),(12,yC DM)],T:=12},{}] [.aa [56,9,41,8,13,3,0,1,2,7] [3]] [yR (↑k:Int),yO (k*4<(ae aN g.aq).length),yu aN g.aq k 1 2,yR 2,yR (↑i:Int),yO (i*4<(ae aW V).length),yu aW V i 1 3,yR 3,yI DM]<|zF 56<|a6<|zP 1 [{hs:=[(3,{k:=k}),(5,yV (aw ((g.aq.getD k default).used))),(8,{k:=i}),(11,yV (ai ((V.getD i default).leaf))),(12,yV (AV.val (Value.int .u64 (↑z:Int)))),(13,yV (aw ((g.aq.getD k default).used>>>UInt64.ofNat z))),(14,yV (aw ((g.aq.getD k default).used>>>UInt64.ofNat z&&&(1:UInt64)))),(15,yV (ao ((g.aq.getD k default).used>>>UInt64.ofNat z&&&(1:UInt64) == 1)))],T:=13}] [.aa [73,56,9,41,8,13,3,0,1,2,7] [3]] [yR (↑k:Int),yO (k*4<(ae aN g.aq).length),yA aN g.aq k 3,yR (↑i:Int),yO (i*4<(ae aW V).length),yA aW V i 1,yI (yd QR),yI (fE ((g.aq.getD k default).used) ((↑z:Int)) ag ag),yO ((0:Int)≤(↑z:Int)),yI (je ((g.aq.getD k default).used>>>UInt64.ofNat z) 1),yI (fK ((g.aq.getD k default).used>>>UInt64.ofNat z&&&(1:UInt64)) 1)]<|du 73 ((g.aq.getD k default).used>>>UInt64.ofNat z&&&(1:UInt64) == 1) (by assumption)<|zq<|zR<|ba<|aI<|dh<|ba<|aI (zV [yJ 37 (fH g w V) (by rw [k1])])
 ·have e:i=V.length:=ag
  subst e
  refine zE 0<|a7<|aP<|bp<|al<|zS<|zP 1 [yH [(1,{k:=V.length})]] [.aa [78,13,3,0,1,2,7] [3]] [yI xW] (zD 78 ((↑V.length:Int)<g.bm) (fun q2=>?_) (fun q2=>?_))
  ·skip
   refine zq<|dk (zV [yJ 41 (fH g w V) (by unfold fH;rw [if_neg ag,if_pos ag])])
  ·skip
   refine a6<|zq<|zR (zV [yJ 0 (fH g w V) (by unfold fH;rw [if_neg ag,if_neg ag])])
end Go.Proofs.YtjgbhhnghedgdaaGreatDoor
