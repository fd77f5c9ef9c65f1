import Derived.Test.YtjgbhhnghedgdaaGreatDoorZvGrB3
import Derived.Test.YtjgbhhnghedgdaaGreatDoorZvIng
set_option linter.all false
namespace Go.Proofs.YtjgbhhnghedgdaaGreatDoor
open Go.RowKit
set_option maxRecDepth 100000
set_option maxHeartbeats 4000000
theorem nV (leaf:Int) (m:UInt64) (s:List UInt64):bG Tryz.prog 114 [ai leaf,aw m,.sl 1 (ah s)] (.cw [aw (qq leaf m s),ai (mV s)]):=by
 by_cases hs:s.length=18
 case neg =>
  have e1:qq leaf m s=0:=if_neg hs
  have e2:mV s=4:=if_neg hs
  refine zO Tryz.func114 37<|zq<|zS<|zP 1 [yH [(1,{k:=s.length})]] [.aa [13,7,6,0,1,2] []] [yI (aA s)]<|dB 13 ((↑s.length:Int) != (18:Int)) (by simp;omega)<|zq<|dC (zV [yK 0 (wv (qq leaf m s)) (by rw [e1];rfl),yJ 4 (mV s) (by rw [e2])])
 have e1:qq leaf m s=combine leaf (cP leaf m s 18):=if_pos hs
 have e2:mV s=0:=if_pos hs
 have hd:=ox m
 refine zO Tryz.func114 37<|zq<|zS<|zP 1 [yH [(1,{k:=s.length})]] [.aa [13,7,6,0,1,2] []] [yI (aA s)]<|bk 13 ((↑s.length:Int) != (18:Int)) (by simp_all)<|a_<|zQ 2 [yH [(1,yC (iz (m)))],{}] [yI (iz m),yB (kP (au (cB m))) (xl _)]<|zS<|zq<|zB 0 (zL (fun (k:Nat)=>(⟨[(8,AV.ref 15),(13,ao ((↑s.length:Int) != (18:Int))),(7,ai 0),(6,ez),(0,ai leaf),(1,aw m),(2,AV.sl 1 (ah s)),(10,ai k),(9,AV.ref 31)],[(15,⟨1,true,false,au (cB m)⟩),(31,⟨1,true,false,ah (cP leaf m s k)⟩)]⟩:AS)) (fun k=>(k≤18)) (fun k=>(18-k)) (0) ?_ (zW [.nil 9 31 1,.aa [8,13,7,6,0,1,2,10,9] [15,31]]) ?_)
 ·omega
 intro k hk
 have hl:=Bg leaf m s k
 refine zS<|zq (zD 17 ((↑k:Int)<18) (fun h=>?_) (fun h=>?_))
 ·skip
  refine a_<|zS<|zB 1<|zX ({hs:=[(5,{k:=k}),(6,yV (ai ((cB m).getD k (0:Int)))),(9,{k:=k}),(10,yV (aw (s.getD k 0))),(11,yV (aw (run leaf (↑k:Int) ((cB m).getD k (0:Int)) (15:Int) (s.getD k 0)))),(12,yV (AV.arr (ah [run leaf (↑k:Int) ((cB m).getD k (0:Int)) (15:Int) (s.getD k 0)]))),(13,yV (AV.arr (ah (cP leaf m s k++ [run leaf (↑k:Int) ((cB m).getD k (0:Int)) (15:Int) (s.getD k 0)]))))],T:=13}) [yR (↑k:Int),yO (k<18),yB ((au (cB m))[k]?=some (ai ((cB m).getD k (0:Int)))) (k_ ag),yR (↑k:Int),yB (k<(ah s).length) (by simp only [aA];omega),yB ((ah s)[k]?=some (aw (s.getD k 0))) (dX ag),yI (pK leaf ((↑k:Int)) ((cB m).getD k (0:Int)) ((15:Int)) (s.getD k 0)),yR [aw (run leaf (↑k:Int) ((cB m).getD k (0:Int)) (15:Int) (s.getD k 0))],yB (ah (cP leaf m s k)++ah [run leaf (↑k:Int) ((cB m).getD k (0:Int)) (15:Int) (s.getD k 0)]=ah (cP leaf m s k++ [run leaf (↑k:Int) ((cB m).getD k (0:Int)) (15:Int) (s.getD k 0)])) (jt _ _),yB (((ah (cP leaf m s k)).length+1)*8≤140737488355328) (by simp only [aA];omega)]<|aJ<|al<|zX (yH [(1,yV (ai ((↑k:Int)+1)))]) [yN ((↑k:Int)+1)] (aH (k+1) ag ag (eS [.uX 33 31,.aa [8,13,7,6,0,1,2,10,9] [15,31]] [] [31] [yB (ah (cP leaf m s k++ [run leaf (↑k:Int) ((cB m).getD k (0:Int)) (15:Int) (s.getD k 0)])=ah (cP leaf m s (k+1))) (congrArg ah (F8 leaf m s k).symm)]))
 ·have e:k=18:=ag
  subst e
  refine zE 0<|a6<|aM<|bm<|al<|zP 1 [yH [(2,yV (aw (combine leaf (cP leaf m s 18))))]] [.aa [7,6,17,8,13,0,1,2,10,9] [15,31]] [yI (sX leaf (cP leaf m s 18) (by assumption))]<|zR (zV [yK (wv (combine leaf (cP leaf m s 18))) (wv (qq leaf m s)) (by rw [e1]),yJ 0 (mV s) (by rw [e2])])
theorem wV (h:Int) (r m:UInt64) (leaf:Int) (C P:List UInt64):bG Tryz.prog 69 [.agg [ai h,aw r],aw m,.agg [ai leaf,.sl 1 (ah C),.sl 1 (ah P)]] (ai (lR h r m leaf C P)):=by
 by_cases fp:iZ h leaf
 ·have e1:lR h r m leaf C P=9:=if_pos fp
  rw [e1]
  unfold iZ at fp
  by_cases hb:ct h
  ·refine zO Tryz.func69 84<|zq<|zS<|zP 1 [yH [(2,yC (ba (h)))]] [.aa [27,6,5,3,0,1,2] [5,3]] ([yI (ba h)]++yM 4 (yS ((!!decide (ct h))=true))++yM 8 (yR true))<|zT 27<|zq<|dC (bP)
  have sd:0≤h∧h≤4:=by unfold ct at hb;omega
  obtain ⟨k,rfl⟩:=Int.eq_ofNat_of_zero_le sd.1
  rw [Int.toNat_natCast] at fp
  have hk:k≤4:=ag
  by_cases cW:leaf<0
  ·refine zO Tryz.func69 84<|zq<|zS<|zP 1 [yH ([(2,yC (ba ((↑k:Int)))),(8,{b:=false})]++yg [5,6,7])] [.aa [27,6,5,3,0,1,2] [5,3]] ([yI (ba ((↑k:Int)))]++yM 4 (yS ((!!decide (ct (↑k:Int)))=false))++yM 8 (yT (leaf<0)))<|zT 27<|zq<|dC (bP)
  have vI:((2^k:Nat):Int)≤leaf:=by rcases fp with h|h|h<;>first|exact absurd h hb|exact absurd h cW|exact h
  have hp:2^k≤16:=Nat.pow_le_pow_right (by decide) (by omega:k≤4)
  have Df:IntKind.i64.wrap (1*2^min (wv (u64 (k:Int))).toNat IntKind.i64.bits)=((2^k:Nat):Int):=by
   rcases (ag:k=0∨k=1∨k=2∨k=3∨k=4) with rfl|rfl|rfl|rfl|rfl<;>decide +kernel
  have KD:(0:Int)≤wv (u64 (k:Int)):=Int.natCast_nonneg _
  generalize 2^k=p2 at *
  refine zO Tryz.func69 84<|zq<|zS<|zP 1 [yH ([(2,yC (ba ((↑k:Int)))),(8,{b:=false}),(14,{av:=some (aw (u64 (↑k:Int))),g:=false}),(15,{av:=some (ai ↑p2),g:=false}),(17,{b:=false})]++yg [5,6,7,10,11,12,13,16])] [.aa [27,6,5,3,0,1,2] [5,3]] ([yI (ba ((↑k:Int)))]++yM 4 (yS ((!!decide (ct (↑k:Int)))=false))++yM 5 (yF (leaf<0))++ [yI (a7 ((↑k:Int))),yF (leaf<0),yI (yc Df),yI KD]++yM 2 (yF (leaf<0)))<|iw 27 (leaf≥(↑p2:Int))<|zq<|dC (bP)
 have hv:lR h r m leaf C P=if C.length≠18∨(P.length:Int)≠h then 4 else if dG leaf.toNat P (combine leaf (cP leaf m C 18)) h.toNat=r then 0 else 15:=if_neg fp
 unfold iZ ct at fp
 have sd:0≤h∧h≤4∧0≤leaf:=ag
 obtain ⟨k,rfl⟩:=Int.eq_ofNat_of_zero_le sd.1
 obtain ⟨i,rfl⟩:=Int.eq_ofNat_of_zero_le sd.2.2
 rw [Int.toNat_natCast] at fp
 rw [Int.toNat_natCast,Int.toNat_natCast] at hv
 have hk:k≤4:=ag
 have hb:¬ct (k:Int):=by unfold ct;omega
 have ho:¬((i:Int)<0∨((2^k:Nat):Int)≤i):=ag
 have hp:2^k≤16:=Nat.pow_le_pow_right (by decide) hk
 have Df:IntKind.i64.wrap (1*2^min (wv (u64 (k:Int))).toNat IntKind.i64.bits)=((2^k:Nat):Int):=by
  rcases (ag:k=0∨k=1∨k=2∨k=3∨k=4) with rfl|rfl|rfl|rfl|rfl<;>decide +kernel
 have KD:(0:Int)≤wv (u64 (k:Int)):=Int.natCast_nonneg _
 rw [hv]
 by_cases hC:C.length=18
 case neg =>
  rw [if_pos (.inl hC)]
  refine zO Tryz.func69 84<|zq<|zS<|zP 1 [yH ([(2,yC (ba ((↑k:Int)))),(8,{b:=false}),(14,{av:=some (aw (u64 (↑k:Int))),g:=false}),(15,{av:=some (ai (↑((2:Nat)^k):Int)),g:=false}),(17,{b:=false})]++yg [5,6,7,10,11,12,13,16])] [.aa [27,6,5,3,0,1,2] [5,3]] ([yI (ba ((↑k:Int)))]++yM 4 (yS ((!!decide (ct (↑k:Int)))=false))++yM 5 (yR false)++ [yI (a7 ((↑k:Int))),yR false,yI (yc Df),yI KD,yR false,yR false])<|dF 27 ((↑i:Int)≥(↑((2:Nat)^k):Int))<|a_<|zS<|zP 1 [yH [(2,{k:=C.length})]] [.aa [39,27,6,5,3,0,1,2] [5,3]] ([yI (aA C)]++yM 7 (yB (((↑C.length:Int) != (18:Int))=true) (by simp;omega)))<|zT 39<|zq<|dC (bP)
 by_cases hP:P.length=k
 case neg =>
  rw [if_pos (.inr ag)]
  refine zO Tryz.func69 84<|zq<|zS<|zP 1 [yH ([(2,yC (ba ((↑k:Int)))),(8,{b:=false}),(14,{av:=some (aw (u64 (↑k:Int))),g:=false}),(15,{av:=some (ai (↑((2:Nat)^k):Int)),g:=false}),(17,{b:=false})]++yg [5,6,7,10,11,12,13,16])] [.aa [27,6,5,3,0,1,2] [5,3]] ([yI (ba ((↑k:Int)))]++yM 4 (yS ((!!decide (ct (↑k:Int)))=false))++yM 5 (yR false)++ [yI (a7 ((↑k:Int))),yR false,yI (yc Df),yI KD,yR false,yR false])<|dF 27 ((↑i:Int)≥(↑((2:Nat)^k):Int))<|a_<|zS<|zP 1 [yH ([(2,{k:=C.length}),(7,{k:=P.length,g:=false}),(11,{b:=false})]++yg [5,6,8,9,10])] [.aa [39,27,6,5,3,0,1,2] [5,3]] ([yI (aA C)]++yM 3 (yS (((↑C.length:Int) != (18:Int))=false))++ [yI (aA P)]++yM 4 (yS (((↑C.length:Int) != (18:Int))=false)))<|dB 39 ((↑P.length:Int) != (↑k:Int)) (by simp;omega)<|zq<|dC (bP)
 rw [if_neg ag]
 have hr:qq i m C=combine i (cP i m C 18):=if_pos hC
 have he:mV C=0:=if_pos hC
 refine zO Tryz.func69 84<|zq<|zS<|zP 1 [yH ([(2,yC (ba ((↑k:Int)))),(8,{b:=false}),(14,{av:=some (aw (u64 (↑k:Int))),g:=false}),(15,{av:=some (ai (↑((2:Nat)^k):Int)),g:=false}),(17,{b:=false})]++yg [5,6,7,10,11,12,13,16])] [.aa [27,6,5,3,0,1,2] [5,3]] ([yI (ba ((↑k:Int)))]++yM 4 (yS ((!!decide (ct (↑k:Int)))=false))++yM 5 (yR false)++ [yI (a7 ((↑k:Int))),yR false,yI (yc Df),yI KD,yR false,yR false])<|dF 27 ((↑i:Int)≥(↑((2:Nat)^k):Int))<|a_<|zS<|zP 1 [yH ([(2,{k:=C.length}),(7,{k:=P.length,g:=false}),(11,{b:=false})]++yg [5,6,8,9,10])] [.aa [39,27,6,5,3,0,1,2] [5,3]] ([yI (aA C)]++yM 3 (yS (((↑C.length:Int) != (18:Int))=false))++ [yI (aA P)]++yM 4 (yS (((↑C.length:Int) != (18:Int))=false)))<|bk 39 ((↑P.length:Int) != (↑k:Int)) (by simp_all)<|a_<|zP 1 [yH [(5,yC (nV ((↑i:Int)) (m) (C)))]] [.aa [7,39,27,6,5,3,0,1,2] [5,3]] [yI (nV ((↑i:Int)) m C)]<|zS<|zq<|zB 0 (zL (fun (j:Nat)=>(⟨[(39,ao ((↑P.length:Int) != (↑k:Int))),(27,ao (decide ((↑i:Int)≥(↑((2:Nat)^k):Int)))),(6,ai 0),(5,AV.addr 5 0),(3,AV.addr 3 0),(0,AV.agg [ai ↑k,aw r]),(1,aw m),(2,AV.agg [ai ↑i,AV.sl 1 (ah C),AV.sl 1 (ah P)]),(9,ai j),(7,aw (dG i P (combine i (cP i m C 18)) j))],[(5,⟨1,false,true,[ai ↑i,AV.sl 1 (ah C),AV.sl 1 (ah P)]⟩),(3,⟨1,false,true,[ai ↑k,aw r]⟩)]⟩:AS)) (fun j=>(j≤k)) (fun j=>(k-j)) (0) ?_ (eS [.aa [39,27,6,5,3,0,1,2,9,7] [5,3]] [7] [] [yB (aw (qq (↑i:Int) m C)=aw (dG i P (combine (↑i:Int) (cP (↑i:Int) m C 18)) 0)) (congrArg aw hr)]) ?_)
 ·omega
 intro j hj
 refine zS<|bg.qm 1 [{}] [.aa [52,39,27,6,5,3,0,1,2,9,7] [5,3]] bu (s':=AS.mk [(52,ao (decide ((↑j:Int)<(↑k:Int)))),(39,ao ((↑P.length:Int) != (↑k:Int))),(27,ao (decide ((↑i:Int)≥(↑((2:Nat)^k):Int)))),(6,ai 0),(5,AV.addr 5 0),(3,AV.addr 3 0),(0,AV.agg [ai ↑k,aw r]),(1,aw m),(2,AV.agg [ai ↑i,AV.sl 1 (ah C),AV.sl 1 (ah P)]),(9,ai ↑j),(7,aw (dG i P (combine (↑i:Int) (cP (↑i:Int) m C 18)) j))] [(5,Row.mk 1 false true [ai ↑i,AV.sl 1 (ah C),AV.sl 1 (ah P)]),(3,Row.mk 1 false true [ai ↑k,aw r])]) (C:=[]) bu trivial (zD 52 ((↑j:Int)<(↑k:Int)) (fun g=>?_) (fun g=>?_))
 ·have hs:=AU i j ag
  have hle:i/2^j≤i:=Nat.div_le_self ..
  have hq:i/2^j<16:=ag
  have ha:=FE _ hq
  have Lq:(0:Int)≤wv (u64 (j:Int)):=Int.natCast_nonneg _
  have SQ:IntKind.i64.wrap ((j:Int)+1)=((j+1:Nat):Int):=by rw [ft ag ag];omega
  have hc:dG i P (combine i (cP i m C 18)) (j+1)=if i/2^j%2=0 then hY ((j+1:Nat):Int) (dG i P (combine i (cP i m C 18)) j) (P.getD j 0) else hY ((j+1:Nat):Int) (P.getD j 0) (dG i P (combine i (cP i m C 18)) j):=rfl
  generalize i/2^j=q at *
  generalize hx:dG i P (combine i (cP i m C 18)) j=x at *
  by_cases h2:q%2=0
  ·rw [if_pos h2] at hc
   generalize q%2=q2 at *
   refine a_<|zS<|zB 1<|zP 1 [yH [(3,yV (aw (u64 (↑j:Int)))),(4,yV (ai ↑q)),(5,yV (ai ↑q2))]] [.aa [61,52,39,27,6,5,3,0,1,2,9,7] [5,3]] [yI (a7 ((↑j:Int))),yI (yc hs),yI Lq,yI (yc ha)]<|dB 61 ((↑q2:Int) == (0:Int)) eJ<|zX (yH [(1,yV (ai (↑(j+1):Int))),(6,{k:=j}),(7,yV (aw (P.getD j 0))),(8,yV (aw (hY (↑(j+1):Int) x (P.getD j 0))))]) [yB (ai (IntKind.i64.wrap ((↑j:Int)+1))=ai (↑(j+1):Int)) (eN ag ag),yR (↑j:Int),yB (j<(ah P).length) (by simp only [aA];omega),yB ((ah P)[j]?=some (aw (P.getD j 0))) (dX ag),yI (lW (↑(j+1):Int) x (P.getD j 0))]<|aJ<|al<|bg.PL {hs:=[(1,{av:=some (ai ((↑j:Int)+1))})]} (s':=AS.mk [(9,ai ((↑j:Int)+1)),(54,ai ((↑j:Int)+1)),(53,ai ↑j),(7,aw (hY (↑(j+1):Int) x (P.getD j 0))),(70,aw (hY (↑(j+1):Int) x (P.getD j 0))),(69,aw (P.getD j 0)),(68,AV.ptr (ah P) j),(67,ai ↑j),(66,AV.sl 1 (ah P)),(65,AV.addr 5 2),(64,aw x),(63,ai (↑(j+1):Int)),(62,ai ↑j),(61,ao ((↑q2:Int) == (0:Int))),(52,ao (decide ((↑j:Int)<(↑k:Int)))),(39,ao ((↑P.length:Int) != (↑k:Int))),(27,ao (decide ((↑i:Int)≥(↑((2:Nat)^k):Int)))),(6,ai 0),(5,AV.addr 5 0),(3,AV.addr 3 0),(0,AV.agg [ai ↑k,aw r]),(1,aw m),(2,AV.agg [ai ↑i,AV.sl 1 (ah C),AV.sl 1 (ah P)])] [(5,Row.mk 1 false true [ai ↑i,AV.sl 1 (ah C),AV.sl 1 (ah P)]),(3,Row.mk 1 false true [ai ↑k,aw r])]) (C:=[ai (IntKind.i64.wrap ((↑j:Int)+1))=ai ((↑j:Int)+1)]) bu ⟨(eN ag ag),trivial⟩ (aH (j+1) ag ag (eS [.aa [39,27,6,5,3,0,1,2,9,7] [5,3]] [7] [] [yB (aw (hY (↑(j+1):Int) x (P.getD j 0))=aw (dG i P (combine (↑i:Int) (cP (↑i:Int) m C 18)) (j+1))) (by rw [hc])]))
  ·rw [if_neg h2] at hc
   generalize q%2=q2 at *
   refine a_<|zS<|zB 1<|zP 1 [yH [(3,yV (aw (u64 (↑j:Int)))),(4,yV (ai ↑q)),(5,yV (ai ↑q2))]] [.aa [61,52,39,27,6,5,3,0,1,2,9,7] [5,3]] [yI (a7 ((↑j:Int))),yI (yc hs),yI Lq,yI (yc ha)]<|bk 61 ((↑q2:Int) == (0:Int)) bD<|zX (yH [(1,yV (ai (↑(j+1):Int))),(5,{k:=j}),(6,yV (aw (P.getD j 0))),(8,yV (aw (hY (↑(j+1):Int) (P.getD j 0) x)))]) [yB (ai (IntKind.i64.wrap ((↑j:Int)+1))=ai (↑(j+1):Int)) (eN ag ag),yR (↑j:Int),yB (j<(ah P).length) (by simp only [aA];omega),yB ((ah P)[j]?=some (aw (P.getD j 0))) (dX ag),yI (lW (↑(j+1):Int) (P.getD j 0) x)]<|aJ<|al<|zX (yH [(1,yV (ai ((↑j:Int)+1)))]) [yN ((↑j:Int)+1)] (aH (j+1) ag ag (eS [.aa [39,27,6,5,3,0,1,2,9,7] [5,3]] [7] [] [yB (aw (hY (↑(j+1):Int) (P.getD j 0) x)=aw (dG i P (combine (↑i:Int) (cP (↑i:Int) m C 18)) (j+1))) (by rw [hc])]))
 ·have e:j=k:=ag
  subst e
  by_cases kA:dG i P (combine i (cP i m C 18)) j=r
  ·rw [if_pos kA]
   refine zE 0<|a6<|aM<|bm<|al<|zS<|zP 1 [yH [(3,yV (ao (dG i P (combine (↑i:Int) (cP (↑i:Int) m C 18)) j != r)))]] [.aa [83,52,39,27,6,5,3,0,1,2,9,7] [5,3]] [yI (cG (dG i P (combine (↑i:Int) (cP (↑i:Int) m C 18)) j) r)]<|bk 83 (dG i P (combine (↑i:Int) (cP (↑i:Int) m C 18)) j != r) (by simp_all)<|a_<|zq<|zR (bP)
  ·rw [if_neg kA]
   refine zE 0<|a6<|aM<|bm<|al<|zS<|zP 1 [yH [(3,yV (ao (dG i P (combine (↑i:Int) (cP (↑i:Int) m C 18)) j != r)))]] [.aa [83,52,39,27,6,5,3,0,1,2,9,7] [5,3]] [yI (cG (dG i P (combine (↑i:Int) (cP (↑i:Int) m C 18)) j) r)]<|dB 83 (dG i P (combine (↑i:Int) (cP (↑i:Int) m C 18)) j != r) (by simp_all)<|zq<|dC (bP)
theorem Dt (m:Mem) (h:List UInt8):bG Tryz.prog 111 [.agg (aT m),.ptr [cV h] 0] (ao (m.name == h)):=by
 refine zO Tryz.func111 8<|zP 2 [{},yH [(3,yV (ao (m.name == h)))]] [.aa [3,2,0,1] [2]] [yI (fF m.name h)]<|zR (bP)
theorem Dv (l:List Mem) (h:List UInt8) (Au:l.length≤1000000):bG Tryz.prog 110 [.sl 4 (af aT l),.mI 111 [.ptr [cV h] 0]] (ai (dZ l h)):=by
 have hl:(af aT l).length=l.length*4:=aE (e:=4) (fun _=>rfl) ..
 refine zO Tryz.func110 19<|zq<|zS<|zQ 1 [yH [(1,{k:=l.length})]] [yI hl]<|zB 0 (zL (fun (i:Nat)=>(⟨[(7,ai (↑l.length:Int)),(0,AV.sl 4 (af aT l)),(1,AV.mI 111 [AV.ptr [cV h] 0]),(8,ai i)],[]⟩:AS)) (fun i=>(i≤l.length∧ ∀j,j<i->(l.getD j default).name≠h)) (fun i=>(l.length-i)) (0) ?_ (zW [.aa [7,0,1,8] []]) ?_)
 ·exact ⟨ag,ag⟩
 rintro i ⟨hi,gr⟩
 refine zq<|zS (zD 9 ((↑i:Int)<(↑l.length:Int)) (fun g=>?_) (fun g=>?_))
 ·have dI:i<l.length:=ag
  have hc:=Dt (l.getD i default) h
  by_cases e:(l.getD i default).name=h
  ·have hf:=y9 dI gr e
   refine a_<|zS<|zB 1<|zP 2 [{},yH [(3,{k:=i}),(4,yV (AV.agg (aT (l.getD i default)))),(5,yC hc)]] [.aa [16,5,9,7,0,1,8] []] [yR (↑i:Int),yO (i*4<(af aT l).length),yu aT l i 0 4,yR 4,yI hc]<|dB 16 ((l.getD i default).name == h) (by simp_all)<|zq<|zR<|bc<|aK<|dN<|bc<|aK (zV [yJ (↑i:Int) (dZ l h) (by rw [hf])])
  ·skip
   refine a_<|zS<|zB 1<|zP 2 [{},yH [(3,{k:=i}),(4,yV (AV.agg (aT (l.getD i default)))),(5,yC hc)]] [.aa [16,5,9,7,0,1,8] []] [yR (↑i:Int),yO (i*4<(af aT l).length),yu aT l i 0 4,yR 4,yI hc]<|bk 16 ((l.getD i default).name == h) (by simp_all)<|zK<|aJ<|al<|zX (yH [(0,yV (ai ((↑i:Int)+1)))]) [yN ((↑i:Int)+1)] (aH (i+1) ⟨ag,fun j hj=>by by_cases e2:j=i;(subst e2;exact e);exact gr j ag⟩ ag (zW [.aa [7,0,1,8] []]))
 ·have hf:=y7 (l:=l) (h:=h) (fun j hj=>gr j ag)
  refine zE 0<|a6<|aM<|bm<|al<|zq<|zR (zV [yJ (-1:Int) (dZ l h) (by rw [hf])])
theorem oq (g:ig) (h:List UInt8) (Au:g.aq.length≤1000000):bG Tryz.prog 61 [.agg (dA g),cV h] (ai (dZ g.aq h)):=by
 refine zO Tryz.func61 9<|zP 2 [{},yH [(3,yV (ai (dZ g.aq h)))]] [.aa [4,3,2,0,1] [2]] [yI (Dv g.aq h Au)]<|zR (bP)
theorem mU (l:List Mem) (h:List UInt8) (Au:l.length≤1000000):bG Tryz.prog 64 [.sl 4 (af aT l),cV h] (ai (dZ l h)):=by
 have hl:(af aT l).length=l.length*4:=aE (e:=4) (fun _=>rfl) ..
 refine zO Tryz.func64 20<|zq<|zS<|zq<|zB 0 (zL (fun (i:Nat)=>(⟨[(0,AV.sl 4 (af aT l)),(1,cV h),(5,ai i)],[]⟩:AS)) (fun i=>(i≤l.length∧ ∀j,j<i->(l.getD j default).name≠h)) (fun i=>(l.length-i)) (0) ?_ (zW [.aa [0,1,5] []]) ?_)
 ·exact ⟨ag,ag⟩
 rintro i ⟨hi,gr⟩
 refine zS<|zP 1 [yH [(2,{k:=l.length})]] [.aa [9,0,1,5] []] [yI hl] (zD 9 ((↑i:Int)<(↑l.length:Int)) (fun g=>?_) (fun g=>?_))
 ·have dI:i<l.length:=ag
  by_cases e:(l.getD i default).name=h
  ·have hf:=y9 dI gr e
   refine a_<|zS<|zB 1<|zP 1 [yH [(2,{k:=i}),(4,yV (cV (l.getD i default).name)),(6,yV (ao ((l.getD i default).name == h)))]] [.aa [18,9,0,1,5] []] [yR (↑i:Int),yO (i*4<(af aT l).length),yA aT l i 0,yI (fF ((l.getD i default).name) h)]<|dB 18 ((l.getD i default).name == h) (by simp_all)<|zq<|zR<|bc<|aK<|dN<|bc<|aK (zV [yJ (↑i:Int) (dZ l h) (by rw [hf])])
  ·skip
   refine a_<|zS<|zB 1<|zP 1 [yH [(2,{k:=i}),(4,yV (cV (l.getD i default).name)),(6,yV (ao ((l.getD i default).name == h)))]] [.aa [18,9,0,1,5] []] [yR (↑i:Int),yO (i*4<(af aT l).length),yA aT l i 0,yI (fF ((l.getD i default).name) h)]<|bk 18 ((l.getD i default).name == h) (by simp_all)<|zK<|aJ<|al<|zX (yH [(1,yV (ai ((↑i:Int)+1)))]) [yN ((↑i:Int)+1)] (aH (i+1) ⟨ag,fun j hj=>by by_cases e2:j=i;(subst e2;exact e);exact gr j ag⟩ ag (zW [.aa [0,1,5] []]))
 ·have hf:=y7 (l:=l) (h:=h) (fun j hj=>gr j ag)
  refine zE 0<|a6<|aM<|bm<|al<|zq<|zR (zV [yJ (-1:Int) (dZ l h) (by rw [hf])])
def D0 (l:List nH) (p:UInt64):Int:=if wP l p<l.length then (wP l p:Int) else -1
theorem qp (l:List nH) (p:UInt64) (Au:l.length≤1000000):bG Tryz.prog 112 [.sl 7 (af bj l),aw p] (ai (D0 l p)):=by
 have hl:(af bj l).length=l.length*7:=aE (e:=7) (fun _=>rfl) ..
 refine zO Tryz.func112 20<|zq<|zS<|zq<|zB 0 (zL (fun (i:Nat)=>(⟨[(0,AV.sl 7 (af bj l)),(1,aw p),(5,ai i)],[]⟩:AS)) (fun i=>(i≤l.length∧ ∀j,j<i->(l.getD j default).bV≠p)) (fun i=>(l.length-i)) (0) ?_ (zW [.aa [0,1,5] []]) ?_)
 ·exact ⟨ag,ag⟩
 rintro i ⟨hi,gr⟩
 refine zS<|zP 1 [yH [(2,{k:=l.length})]] [.aa [9,0,1,5] []] [yI hl] (zD 9 ((↑i:Int)<(↑l.length:Int)) (fun g=>?_) (fun g=>?_))
 ·have dI:i<l.length:=ag
  by_cases e:(l.getD i default).bV=p
  ·have hf:=Jz dI gr e
   refine a_<|zS<|zB 1<|zP 1 [yH [(2,{k:=i}),(4,yV (aw ((l.getD i default).bV))),(6,yV (ao ((l.getD i default).bV == p)))]] [.aa [18,9,0,1,5] []] [yR (↑i:Int),yO (i*7<(af bj l).length),yA bj l i 0,yI (fe ((l.getD i default).bV) p)]<|dB 18 ((l.getD i default).bV == p) eJ<|zq<|zR<|bc<|aK<|dN<|bc<|aK (zV [yJ (↑i:Int) (D0 l p) (by unfold D0;rw [hf,if_pos dI])])
  ·skip
   refine a_<|zS<|zB 1<|zP 1 [yH [(2,{k:=i}),(4,yV (aw ((l.getD i default).bV))),(6,yV (ao ((l.getD i default).bV == p)))]] [.aa [18,9,0,1,5] []] [yR (↑i:Int),yO (i*7<(af bj l).length),yA bj l i 0,yI (fe ((l.getD i default).bV) p)]<|bk 18 ((l.getD i default).bV == p) bD<|zK<|aJ<|al<|zX (yH [(1,yV (ai ((↑i:Int)+1)))]) [yN ((↑i:Int)+1)] (aH (i+1) ⟨ag,fun j hj=>by by_cases e2:j=i;(subst e2;exact e);exact gr j ag⟩ ag (zW [.aa [0,1,5] []]))
 ·have hf:=Jy (l:=l) (p:=p) (fun j hj=>gr j ag)
  refine zE 0<|a6<|aM<|bm<|al<|zq<|zR (zV [yJ (-1:Int) (D0 l p) (by unfold D0;rw [hf,if_neg (Nat.lt_irrefl _)])])
theorem i4 {l:List ic} {i:Nat} (h:i<l.length):List.take 4 (List.drop (i*4) (af aL l))=aL (l.getD i default):=kM (e:=4) (fun _=>rfl) h
theorem vm {l:List Mem} {n:List UInt8} {k:Nat} (h:dZ l n=k):Li l n=l.getD k default:=by unfold Li;rw [h];rfl
def Ij (l:List ic) (i:Nat):Prop:=0<i∧Gi (l.getD i default).name (l.getD (i-1) default).name=true
theorem PA {g:ig} {w:UInt64} {l:List ic} {i:Nat} (h:Ij l i):ki g w l i=7:=if_pos h
theorem Ml {g:ig} {w:UInt64} {l:List ic} {i:Nat} (h:¬Ij l i) (h2:dZ g.aq (l.getD i default).name<0):ki g w l i=11:=(if_neg h).trans (if_pos h2)
section
variable {g:ig} {w:UInt64} {l:List ic} {i k:Nat} (h:¬Ij l i) (h2:dZ g.aq (l.getD i default).name=k)
include h h2
theorem Hx {e:Int} (he:lR (g.aq.getD k default).h (g.aq.getD k default).r w (l.getD i default).leaf (l.getD i default).cM (l.getD i default).path=e) (h0:e≠0):ki g w l i=e:=by
 refine (if_neg h).trans ?_;rw [if_neg ag,vm h2,he,if_pos h0]
theorem yh (he:lR (g.aq.getD k default).h (g.aq.getD k default).r w (l.getD i default).leaf (l.getD i default).cM (l.getD i default).path=0):ki g w l i=if (g.aq.getD k default).used&&&gO (l.getD i default).leaf≠0 then 37 else 0:=by
 refine (if_neg h).trans ?_;rw [if_neg ag,vm h2,he,if_neg ag]
end
theorem lD {g:ig} {w:UInt64} {l:List ic} {i:Nat} (hi:i<l.length) (h0:ff (ki g w l) i=0) {e:Int} (he:ki g w l i=e) (hn:e≠0):fT g w l=e:=by
 have k2:ff (ki g w l) (i+1)=e:=by show (if _ then _ else _)=_;rw [if_neg ag,he]
 have:=lN hn k2 l.length hi
 unfold fT
 rw [this,if_pos hn]
theorem Kf (g:ig) (w:UInt64) (V:List ic) (hm:g.aq.length≤1000) (hv:V.length≤1000000):bG Tryz.prog 58 [.agg (dA g),.sl 4 (af aL V),aw w] (ai (fT g w V)):=by
 have l0:(af aL V).length=V.length*4:=aE (e:=4) (fun _=>rfl) ..
 have nG:(af aT g.aq).length=g.aq.length*4:=aE (e:=4) (fun _=>rfl) ..
 refine zO Tryz.func58 68<|zq<|zS<|zQ 1 [yH [(1,{k:=V.length})]] [yI l0]<|zB 0 (zL (fun (i:Nat)=>(⟨[(12,ai (↑V.length:Int)),(11,AV.sl 4 (af aL V)),(3,AV.addr 3 0),(0,AV.agg (dA g)),(1,AV.sl 4 (af aL V)),(2,aw w),(13,ai i)],[(3,⟨1,false,true,List.map (aF 3) (dA g)⟩)]⟩:AS)) (fun i=>(i≤V.length∧ff (ki g w V) i=0)) (fun i=>(V.length-i)) (0) ?_ (zW [.aa [12,11,3,0,1,2,13] [3]]) ?_)
 ·exact ⟨ag,rfl⟩
 rintro i ⟨hi,h0⟩
 refine zq<|zS (zD 14 ((↑i:Int)<(↑V.length:Int)) (fun q=>?_) (fun q=>?_))
 ·have dI:i<V.length:=ag
  have gM:=i4 dI
  refine a_<|zS<|zB 1<|zP 1 [yH [(1,{k:=i}),(2,yV (AV.agg (aL (V.getD i default))))]] [.aa [7,8,14,12,11,3,0,1,2,13] [8,3]] [yR (↑i:Int),yO (i*4<(af aL V).length),yu aL V i 0 4,yR 4,yL 4 4] (bg.ob (fun (u:Unit)=>(⟨[(7,ai ↑i),(8,AV.addr 8 0),(14,ao (decide ((↑i:Int)<(↑V.length:Int)))),(12,ai (↑V.length:Int)),(11,AV.sl 4 (af aL V)),(3,AV.addr 3 0),(0,AV.agg (dA g)),(1,AV.sl 4 (af aL V)),(2,aw w),(13,ai ↑i)],[(8,⟨1,false,true,(aL (V.getD i default))⟩),(3,⟨1,false,true,List.map (aF 8) (List.map (aF 3) (dA g))⟩)]⟩:AS)) (fun u=>(¬Ij V i)) bu ?_ ?_)
  ·by_cases c6:0<i
   ·obtain ⟨k,hk⟩:∃k,k+1=i:=⟨i-1,ag⟩
    have tJ:=i4 (l:=V) (i:=k) ag
    have ek:i-1=k:=ag
    by_cases c7:Gi (V.getD i default).name (V.getD k default).name=true
    ·have k1:=lD dI h0 (PA (g:=g) (w:=w) ⟨c6,by rw [ek];exact c7⟩) ag
     refine zP 1 [{hs:=[(7,yV (ai ↑k)),(8,{k:=k}),(10,yV (cV (V.getD k default).name))],T:=11}] [.aa [30,7,8,14,12,11,3,0,1,2,13] [8,3]] (yM 5 (yT ((↑i:Int)>0))++ [yB (ai (IntKind.i64.wrap ((↑i:Int)-1))=ai ↑k) (congrArg (fun n=>AV.val (.int .i64 n)) (by rw [IntKind.wrap_i64];omega)),yT ((↑i:Int)>0),yR (↑k:Int),yO (k*4<(af aL V).length)]++yM 2 (yT ((↑i:Int)>0))++ [yA aL V k 0]++yM 2 (yT ((↑i:Int)>0)))<|dB 30 (Op.bytesLess (ByteArray.mk (V.getD i default).name.toArray).toList (ByteArray.mk (V.getD k default).name.toArray).toList || (ByteArray.mk (V.getD i default).name.toArray).toList == (ByteArray.mk (V.getD k default).name.toArray).toList) (by assumption)<|zq<|dC<|bc<|aK<|dN<|bc<|aK (zV [yJ 7 (fT g w V) (by rw [k1])])
    ·have c9:Gi (V.getD i default).name (V.getD k default).name=false:=by simpa using c7
     refine zP 1 [{hs:=[(7,yV (ai ↑k)),(8,{k:=k}),(10,yV (cV (V.getD k default).name))],T:=11}] [.aa [30,7,8,14,12,11,3,0,1,2,13] [8,3]] (yM 5 (yT ((↑i:Int)>0))++ [yB (ai (IntKind.i64.wrap ((↑i:Int)-1))=ai ↑k) (congrArg (fun n=>AV.val (.int .i64 n)) (by rw [IntKind.wrap_i64];omega)),yT ((↑i:Int)>0),yR (↑k:Int),yO (k*4<(af aL V).length)]++yM 2 (yT ((↑i:Int)>0))++ [yA aL V k 0]++yM 2 (yT ((↑i:Int)>0)))<|bk 30 (Op.bytesLess (ByteArray.mk (V.getD i default).name.toArray).toList (ByteArray.mk (V.getD k default).name.toArray).toList || (ByteArray.mk (V.getD i default).name.toArray).toList == (ByteArray.mk (V.getD k default).name.toArray).toList) (by assumption)<|a_ (⟨(),(fun q=>by have:=q.2;rw [ek] at this;exact c7 this),(zW [.aa [7,8,14,12,11,3,0,1,2,13] [8,3]])⟩)
   ·skip
    refine zP 1 [{hs:=[(3,{g:=false}),(4,{g:=false}),(5,{g:=false}),(6,{g:=false}),(7,{g:=false}),(8,{g:=false}),(9,{g:=false}),(10,{g:=false}),(11,{g:=false}),(12,{b:=false})],T:=11}] [.aa [30,7,8,14,12,11,3,0,1,2,13] [8,3]] (yM 10 (yF ((↑i:Int)>0)))<|zF 30<|a_ (⟨(),(fun q=>c6 q.1),(zW [.aa [7,8,14,12,11,3,0,1,2,13] [8,3]])⟩)
  intro u hu
  have jL:=oq g (V.getD i default).name ag
  rcases gU g.aq (V.getD i default).name with hk|⟨k,hk,iY,QD⟩
  ·have k1:=lD dI h0 (Ml (g:=g) (w:=w) hu ag) ag
   rw [hk] at jL
   refine zP 1 [yH [(3,yC jL)]] [.aa [9,7,8,14,12,11,3,0,1,2,13] [8,3]] [yI jL]<|zS<|zq<|iw 36 ((-1:Int)<0)<|zq<|dC<|bc<|aK<|dN<|bc<|aK (zV [yJ 11 (fT g w V) (by rw [k1])])
  have S5:=oO iY
  rw [hk] at jL
  have Dd:=CA (g.aq.getD k default).h (g.aq.getD k default).r w (V.getD i default).leaf (V.getD i default).cM (V.getD i default).path
  by_cases cv:lR (g.aq.getD k default).h (g.aq.getD k default).r w (V.getD i default).leaf (V.getD i default).cM (V.getD i default).path=0
  case neg =>
   have k1:=lD dI h0 (Hx hu hk rfl cv) cv
   refine zP 1 [yH [(3,yC jL)]] [.aa [9,7,8,14,12,11,3,0,1,2,13] [8,3]] [yI jL]<|zS<|zQ 1 [yH [(1,yV (ao false))]] [yR (ao false)]<|zF 36<|a_<|zS<|zP 2 [{hs:=[(3,{k:=k}),(5,yV (AV.agg [ai ((g.aq.getD k default).h),aw ((g.aq.getD k default).r)])),(9,yC Dd)],T:=9},{}] [.aa [48,10,36,9,7,8,14,12,11,3,0,1,2,13] [8,3]] [yR (↑k:Int),yO (k*4<(af aT g.aq).length),yu aT g.aq k 1 2,yR 2,yI Dd]<|dB 48 (lR (g.aq.getD k default).h (g.aq.getD k default).r w (V.getD i default).leaf (V.getD i default).cM (V.getD i default).path != (0:Int)) (by simp_all)<|zP 1 [{}] [.aa [6,48,10,36,9,7,8,14,12,11,3,0,1,2,13] [8,3]] []<|dC<|bc<|aK<|dN<|bc<|aK (zV [yJ (lR (g.aq.getD k default).h (g.aq.getD k default).r w (V.getD i default).leaf (V.getD i default).cM (V.getD i default).path) (fT g w V) (by rw [k1])])
  have LA:=uE cv
  have hr:=yh hu hk cv
  rw [cv] at Dd
  by_cases cu:(g.aq.getD k default).used&&&gO (V.getD i default).leaf=0
  ·rw [if_neg (fun q=>q cu)] at hr
   refine zP 1 [yH [(3,yC jL)]] [.aa [9,7,8,14,12,11,3,0,1,2,13] [8,3]] [yI jL]<|zS<|zq<|dF 36 ((↑k:Int)<0)<|a_<|zS<|zP 2 [{hs:=[(3,{k:=k}),(5,yV (AV.agg [ai ((g.aq.getD k default).h),aw ((g.aq.getD k default).r)])),(9,yC Dd)],T:=9},{}] [.aa [48,10,36,9,7,8,14,12,11,3,0,1,2,13] [8,3]] [yR (↑k:Int),yO (k*4<(af aT g.aq).length),yu aT g.aq k 1 2,yR 2,yI Dd]<|zF 48<|a_<|zP 1 [{hs:=[(3,{k:=k}),(5,yV (aw ((g.aq.getD k default).used))),(9,yV (aw (gO (V.getD i default).leaf))),(10,yV (aw ((g.aq.getD k default).used&&&gO (V.getD i default).leaf))),(11,yV (ao false))],T:=10}] [.aa [61,48,10,36,9,7,8,14,12,11,3,0,1,2,13] [8,3]] [yR (↑k:Int),yO (k*4<(af aT g.aq).length),yA aT g.aq k 3,yB (AV.val (Value.int .u64 (IntKind.u64.wrap ((1:Int)*(2:Int)^min (V.getD i default).leaf.toNat IntKind.u64.bits)))=aw (gO (V.getD i default).leaf)) (jP 1 _ LA.1 ag),yO ((0:Int)≤(V.getD i default).leaf),yI (jh ((g.aq.getD k default).used) (gO (V.getD i default).leaf)),yB (ao (wv ((g.aq.getD k default).used&&&gO (V.getD i default).leaf) != (0:Int))=ao false) (by rw [cu];rfl)]<|zF 61<|zK<|aJ<|al<|zX (yH [(0,yV (ai ((↑i:Int)+1)))]) [yN ((↑i:Int)+1)] (aH (i+1) ⟨ag,by show (if _ then _ else _)=_;rw [if_neg ag,hr]⟩ ag (zW [.aa [12,11,3,0,1,2,13] [3]]))
  ·rw [if_pos cu] at hr
   have k1:=lD dI h0 hr ag
   refine zP 1 [yH [(3,yC jL)]] [.aa [9,7,8,14,12,11,3,0,1,2,13] [8,3]] [yI jL]<|zS<|zq<|dF 36 ((↑k:Int)<0)<|a_<|zS<|zP 2 [{hs:=[(3,{k:=k}),(5,yV (AV.agg [ai ((g.aq.getD k default).h),aw ((g.aq.getD k default).r)])),(9,yC Dd)],T:=9},{}] [.aa [48,10,36,9,7,8,14,12,11,3,0,1,2,13] [8,3]] [yR (↑k:Int),yO (k*4<(af aT g.aq).length),yu aT g.aq k 1 2,yR 2,yI Dd]<|zF 48<|a_<|zP 1 [{hs:=[(3,{k:=k}),(5,yV (aw ((g.aq.getD k default).used))),(9,yV (aw (gO (V.getD i default).leaf))),(10,yV (aw ((g.aq.getD k default).used&&&gO (V.getD i default).leaf))),(11,yV (ao ((g.aq.getD k default).used&&&gO (V.getD i default).leaf != 0)))],T:=10}] [.aa [61,48,10,36,9,7,8,14,12,11,3,0,1,2,13] [8,3]] [yR (↑k:Int),yO (k*4<(af aT g.aq).length),yA aT g.aq k 3,yB (AV.val (Value.int .u64 (IntKind.u64.wrap ((1:Int)*(2:Int)^min (V.getD i default).leaf.toNat IntKind.u64.bits)))=aw (gO (V.getD i default).leaf)) (jP 1 _ LA.1 ag),yO ((0:Int)≤(V.getD i default).leaf),yI (jh ((g.aq.getD k default).used) (gO (V.getD i default).leaf)),yI (cG ((g.aq.getD k default).used&&&gO (V.getD i default).leaf) 0)]<|dB 61 ((g.aq.getD k default).used&&&gO (V.getD i default).leaf != 0) (by simp_all)<|zq<|zR<|bc<|aK<|dN<|bc<|aK (zV [yJ 37 (fT g w V) (by rw [k1])])
 ·have e:i=V.length:=ag
  subst e
  refine zE 0<|a6<|aM<|bm<|al<|zS<|zP 1 [yH [(1,{k:=V.length})]] [.aa [67,14,12,11,3,0,1,2,13] [3]] [yI l0] (zD 67 ((↑V.length:Int)<g.bA) (fun q2=>?_) (fun q2=>?_))
  ·skip
   refine zq<|dC (zV [yJ 41 (fT g w V) (by unfold fT;rw [if_neg ag,if_pos ag])])
  ·skip
   refine a_<|zq<|zR (zV [yJ 0 (fT g w V) (by unfold fT;rw [if_neg ag,if_neg ag])])
section
variable {P:Program} {n:Nat} {s:AS} {o:Oper}
def MX (U:World->(Nat->Option Nat)->Prop) (P:Program) (f:FuncId) (args:List AV) (H:List (Nat×Row)) (r:AV) (H':List (Nat×Row)):Prop :=
 ∀(w:World) (S:Nat->Prop) (φ:Nat->Option Nat) (vs:List Value),Mh S w φ H->U w φ->vs.length=args.length->(∀(j:Nat) v x,vs[j]?=some v->args[j]?=some x->Den (az H φ) S w v x) ->
  Calls P f vs.toArray w fun e w'=>∃v O b_,e= .returned v∧Kz S w w' φ b_ O H' v r
theorem Rg {U:World->(Nat->Option Nat)->Prop} {f:FuncId} {xs:Array Operand} {ts:Array TypeId} {ln:List (Nat×Nat)} {ho Hl Hb:List (Nat×Row)} {C:List Prop} {d:Nat} {r:AV} {s':AS} (uc:o.op= .call ⟨.value (.func f),xs,ts⟩) (hd:o.dst=some d) (hE:gV P f=true) (hl:gK s ln ln=some Hl) (hb:j7 ho (inv ln) ln=some Hb) (uh:ra ln=true) (hv:nM s ho ln=some C) (hC:bx C)
  (tF:nodupB ((br d r).2.map (·.1))=true) (ea:fO n ⟨(aR (gB s ln Hb) ((br d r).2.map (·.1))).F,(br d r).2++(aR (gB s ln Hb) ((br d r).2.map (·.1))).H⟩ (some d) (br d r).1=some s') (nc:MX U P f (xs.toList.map fun x=>nU ln (bq s x)) Hl r ho)
  {S0:bn} {w0 w:World} {a:Act} {φ:Nat->Option Nat} {Q:Exit->Act->World->Prop} (hs:aI S0 w0 n [] s a w φ) (hU:U w (er ln φ)):o.wp P a w (fun a' w'=>ie S0 w0 n s' a' w') Q:=by
 obtain ⟨h1,h2⟩:=wC uh
 obtain ⟨BH,hI⟩:=EZ hs h1 h2 hl
 have bT:=iX (P:=P) hs (c:=.value (.func f)) rfl uc hE
 unfold Oper.wp
 rw [bT]
 have la:=nc w (aP S0 w φ []) (er ln φ) (xs.toList.map a.eval) BH hU (by simp) (fun j v x hv hx=>by
  rw [List.getElem?_map] at hv hx
  cases hj:xs.toList[j]? with
  | none=>rw [hj] at hv;cases hv
  | some y =>
   rw [hj] at hv hx
   injection hv with hv;injection hx with hx;subst hv;subst hx
   exact (hs.bq y).H5 ln hI (fun b hb=>hb))
 have e:(xs.toList.map a.eval).toArray=xs.map a.eval:=by apply Array.ext';simp
 rw [e] at la
 refine la.mono ?_
 rintro en w' ⟨v,O,b_,rfl,hB⟩
 show ie S0 w0 n s' (a.put o.dst v) w'
 obtain ⟨wQ,h3,r8⟩:=xK hs h1 h2 hb hv hC hB
 have mv:∀g∈O,(w0.heap.size≤g∨S0.X g)∧g<w'.heap.size:=fun g hg=>by
  obtain ⟨o1,o2,-⟩:=hB.own g hg
  refine ⟨?_,o2⟩
  rcases o1 with h|⟨k,hk⟩
  ·exact .inl (Nat.le_trans hs.da.size h)
  ·unfold er at hk
   cases hc:look (inv ln) k with
   | none=>rw [hc] at hk;cases hk
   | some c=>rw [hc] at hk;exact (hs.cY c g hk).1.2
 obtain ⟨tS,h4,hF,BG⟩:=jb ((br d r).2.map (·.1)) _ wQ O h3
 have Po:aI S0 w0 n (O++ []) (aR (gB s ln Hb) ((br d r).2.map (·.1))) a w' tS:=by rw [List.append_nil];exact h4
 obtain ⟨R6,h5,h6,-⟩:=rE (aR (gB s ln Hb) ((br d r).2.map (·.1))) tS O [] v r d Po (by rw [List.append_nil];exact r8.mono hF) (by rw [List.append_nil];exact hB.nodup) mv (fun i hi=>⟨BG i (.inr hi),oM tF i hi⟩) (gT tF)
 rw [hd]
 exact ⟨R6,dU h5 h6 ea⟩
theorem Sp {d t el z:Nat} {x:Operand} {zero:Value} {cells:List AV} {s':AS} (ho:o.op= .buildSlice t 1 #[(0,x)]) (hd:o.dst=some d) (hu:P.underlying t=some (.slice el)) (hz:eH P el=some (z+1)) (hzero:(P.info? el).bind (·.zero)=some zero) (vO:1*(z+1)≤16777216)
  (dk:fA s (z+1) 0 [(0,x)]=some cells) (hp:eh cells=true) (ea:fO n (install s d ⟨z+1,true,true,cells⟩) (some d) (.ref d)=some s')
  {S0:bn} {w0 w:World} {a:Act} {φ:Nat->Option Nat} {Q:Exit->Act->World->Prop} (hs:aI S0 w0 n [] s a w φ):o.wp P a w (fun a' w'=>∃ b_,aI S0 w0 n [] s' a' w' b_∧ ∃g cur te,b_ d=some g∧w'.heap[g]?=some (.cells cur te (0,0))) Q:=by
 obtain ⟨h1,us,h2,h3,-,h4⟩:=zb hs (z+1) [(0,x)] 0 cells ((Array.range (1*(z+1))).map (zero.cells[· %zero.cells.size]!)) dk hp (by simp)
 have BC:us.size=cells.length:=by rw [h3,h1];simp
 have bT:(execOp a.eval o).run P w= .ok (.value (.slice (some ⟨w.heap.size,0,none⟩) 1 1)) {w with heap:=w.heap.push (.cells us el (0,0))}:=by
  have zi:(sizeOf el).run P w= .ok (z+1) w:=run_sizeOf hz
  unfold execOp
  simp only [ho,Instr.buildSlice,Sem.run_bind,run_underlying hu,Result.andThen_ok,zi,Sem.run_ite]
  rw [if_neg ag,if_neg ag]
  simp only [il hzero,Result.andThen_ok,Sem.run_pure]
  have nw:((#[(0,x)]:Array (Nat×Operand)).map fun p=>(p.1,a.eval p.2)).toList= [(0,x)].map fun p=>(p.1,a.eval p.2):=by simp
  rw [nw,h2]
  rfl
 refine cN bT ?_
 rw [hd]
 have cW:d<1000000000000:=iA ea
 have hf:=hs.fresh (w':={w with heap:=w.heap.push (.cells us el (0,0))}) d ⟨z+1,true,true,cells⟩ cW rfl rfl rfl (by simp) (cA w _) (df w _) (by simp) (by simp [BC]) (by simp [BC]) (fun j u x hu hx=>⟨fun _=>h4 j u x (by simpa using hu) hx,fun h=>by cases h⟩)
 refine ⟨_,dU hf (.ref d _ _ _ 1 1 (eM d _ _) (by rw [h1];simp) (Nat.le_refl _) (by unfold maxLen;omega) (by unfold aW;rw [df];show us.size=_;rw [BC,h1];simp)) ea,w.heap.size,us,el,?_,df w _⟩
 unfold fM;rw [if_pos rfl]
theorem dj.nL {ops l:List Oper} {s s1 s2:AS} (ws:List Wk) (hw:wk ws s1=some s2) (h:dj P n ops l s s1):dj P n ops l s s2:=fun S0 w0 a w Q m hs hQ=>h S0 w0 a w Q m hs fun a' w' h'=>hQ a' w' (uD ws hw S0 w0 n a' w' h')
theorem dj.ins {ops:List Oper} {o1 o2:Oper} {s s1 s2:AS} {d:Nat} (g1:o1.guard=none) (g2:o2.guard=none)
  (h1:∀S0 w0 a w φ (Q:Exit->Act->World->Prop),aI S0 w0 n [] s a w φ->o1.wp P a w (fun a' w'=>∃ b_,aI S0 w0 n [] s1 a' w' b_∧ ∃g cur te,b_ d=some g∧w'.heap[g]?=some (.cells cur te (0,0))) Q)
  (h2:∀S0 w0 a w φ (Q:Exit->Act->World->Prop),aI S0 w0 n [] s1 a w φ->(∃g cur te,φ d=some g∧w.heap[g]?=some (.cells cur te (0,0)))->o2.wp P a w (fun a' w'=>ie S0 w0 n s2 a' w') Q):dj P n ops [o1,o2] s s2:=by
 intro S0 w0 a w Q m ⟨φ,hs⟩ hQ
 have w1:Region.wanted o1 (yielded ops.toArray a.tmps)=true:=by unfold Region.wanted;rw [g1]
 show wpList P ops.toArray Q (o1::o2::m) a w
 unfold wpList
 rw [if_pos w1]
 refine .inl (Oper.wp_mono (fun a1 v1 ⟨iM,gG,hu⟩=>?_) (h1 S0 w0 a w φ Q hs))
 have w2:Region.wanted o2 (yielded ops.toArray a1.tmps)=true:=by unfold Region.wanted;rw [g2]
 unfold wpList
 rw [if_pos w2]
 exact .inl (Oper.wp_mono (fun a2 v2 h=>hQ a2 v2 h) (h2 S0 w0 a1 v1 iM Q gG hu))
end
def PC (w:World) (φ:Nat->Option Nat):Prop:=∃g cur te,φ 6=some g∧w.heap[g]?=some (.cells cur te (0,0))
theorem IV (l:List ic) (v:ic) {i:Nat} (hi:i<l.length) (cur vs:List Value) (hl:l.length*4≤cur.length) (hv:vs.length=4) (t:Nat) (u:Value) (x:AV) (hu:(vA cur l.length i vs)[t]?=some u) (hx:(af aL (l.take i++ [v]++l.drop i))[t]?=some x) :
  (∃k:Nat,cur[k]?=some u∧(af aL l)[k]?=some x)∨ ∃k:Nat,vs[k]?=some u∧(aL v)[k]?=some x:=by
 have LH:(af aL l).length=l.length*4:=aE (e:=4) (fun _=>rfl) ..
 have e:af aL (l.take i++ [v]++l.drop i)=(af aL l).take (i*4)++aL v++(af aL l).drop (i*4):=by
  rw [mD (e:=4) (fun _=>rfl),mE (e:=4) (fun _=>rfl),←fb,←fb]
  rfl
 have Mz:(aL v).length=4:=rfl
 rw [e] at hx
 unfold vA at hu
 by_cases c1:t<i*4
 ·rw [List.append_assoc,List.getElem?_append_left (by rw [List.length_take];omega),List.getElem?_take,if_pos c1] at hu hx
  exact .inl ⟨t,hu,hx⟩
 ·by_cases c2:t<i*4+4
  ·rw [List.append_assoc,List.getElem?_append_right (by rw [List.length_take];omega),List.length_take,Nat.min_eq_left ag,List.getElem?_append_left ag] at hu hx
   exact .inr ⟨_,hu,hx⟩
  ·rw [List.getElem?_append_right (by rw [List.length_append,List.length_take];omega),List.length_append,List.length_take,Nat.min_eq_left ag,List.getElem?_drop] at hu hx
   rw [hv] at hu
   rw [Mz] at hx
   rw [List.getElem?_take] at hu
   split at hu
   ·exact .inl ⟨_,hu,hx⟩
   ·cases hu
theorem zg (l:List ic) (v:ic) (i:Nat) (hi:i<l.length) (hl:l.length≤1000000):MX PC Tryz.prog 53 [.ref 5,ai i,.ref 6] [(5,⟨4,true,false,af aL l⟩),(6,⟨4,true,true,aL v⟩)] (.own 4 (af aL (l.take i++ [v]++l.drop i))) [(5,⟨4,true,false,af aL []⟩),(6,⟨4,true,false,af aL []⟩)]:=by
 have LH:(af aL l).length=l.length*4:=aE (e:=4) (fun _=>rfl) ..
 have oS:(af aL (l.take i++ [v]++l.drop i)).length=(l.length+1)*4:=by
  rw [aE (e:=4) (fun _=>rfl)]
  simp only [List.length_append,List.length_take,List.length_drop,List.length_cons,List.length_nil];omega
 have nw:cp (af aL l):=dm (fun x=>dr rfl) _
 have VU:cp (aL v):=dr rfl
 intro w S φ vs hL hU hlen dW
 obtain ⟨a,b,c,rfl⟩:=MV hlen rfl
 have d0:=dW 0 a _ rfl rfl
 have d2:=dW 2 c _ rfl rfl
 have hr:=hL.rows 5 _ rfl
 have UK:=hL.rows 6 _ rfl
 have eb:b= .int .i64 i:=bF (dW 1 b _ rfl rfl)
 subst eb
 obtain ⟨vb,Ag,Uk,NC,Pg⟩:=hU
 cases d2 with
 | rep h=>cases h
 | cm _ e' hI =>
  have hI:some (4,(aL v).length,φ 6)=some (e',0,none):=hI
  injection hI with hI;injection hI with _ hI;injection hI with hI _
  cases hI
 | ref _ e6 m6 g6 n6 k6 Ok US Fg Xv RC =>
 have Ok:some (4,(aL v).length,φ 6)=some (e6,m6,some g6):=Ok
 injection Ok with Ok;injection Ok with q1 Ok;injection Ok with q2 q3
 subst q1 q2
 rw [NC] at q3;injection q3 with q3;subst q3
 rw [NC] at UK
 obtain ⟨W6,Xr,XR,RO,-,-,Tl,Wu⟩:=UK
 rw [Pg] at RO
 injection RO with RO;injection RO with q4 q5 q6
 subst q4 q5 q6
 have Tv:Ag.size=4:=Tl rfl
 have Te:k6=1:=by
  unfold aW at RC;rw [Pg] at RC
  have RC:Ag.size=4*k6:=RC
  omega
 have SY:n6=1:=by
  have US:4=4*n6:=US
  omega
 subst Te SY
 have l0:Ag.toList.length=4:=by simp [Tv]
 have UI:∀(j:Nat) u x,Ag.toList[j]?=some u->(aL v)[j]?=some x->cz S w u x:=fun j u x hu hx=>Wu j u x (by simpa using hu) hx
 have h2:∀u∈Ag.toList,u.oneCell'=true:=fun u hu=>by
  obtain ⟨t,ht⟩:=List.getElem?_of_mem hu
  have ua:t<4:=by
   have:=(List.getElem?_eq_some_iff.1 ht).1
   omega
  have P4:(aL v)[t]?=some (aL v)[t]:=List.getElem?_eq_getElem (by exact ua)
  exact tV (UI t u _ ht P4) (VU _ (List.getElem_mem _))
 cases d0 with
 | rep h=>cases h
 | cm _ e' hI =>
  have hI:some (_,(af aL l).length,_)=some (e',0,none):=hI
  injection hI with hI;injection hI with _ hI;injection hI with hI _
  omega
 | ref _ e m g n k hI hm hk hx hs =>
  have hI:some (4,(af aL l).length,φ 5)=some (e,m,some g):=hI
  injection hI with hI;injection hI with e1 hI;injection hI with e2 bW
  subst e1 e2
  rw [bW] at hr
  obtain ⟨cur,te,fr,hg,gu,hle,-,hc⟩:=hr
  have uf:cur.size=4*k:=by unfold aW at hs;rw [hg] at hs;exact hs
  have SR:n=l.length:=ag
  subst SR
  have bU:∀(j:Nat) u x,cur[j]?=some u->(af aL l)[j]?=some x->cz S w u x:=hc
  have cS:vb≠g:=fun e=>by
   have:=hL.inj 5 6 g bW (by rw [NC,e])
   cases this
  have h1:∀(t:Nat) u,t<l.length*4->cur[t]?=some u->u.oneCell'=true:=fun t u ht hu=>by
   have P4:(af aL l)[t]?=some (af aL l)[t]:=List.getElem?_eq_getElem ag
   exact tV (bU t u _ hu P4) (nw _ (List.getElem_mem _))
  have Vw:k≤9223372036854775807:=by unfold maxLen at hx;omega
  have src:∀(t:Nat) u x,(vA cur.toList l.length i Ag.toList)[t]?=some u->(af aL (l.take i++ [v]++l.drop i))[t]?=some x->cz S w u x:=fun t u x hu hx=>by
   rcases IV l v hi cur.toList Ag.toList (by simp;omega) l0 t u x hu hx with ⟨q,h1,h2⟩|⟨q,h1,h2⟩
   ·exact bU q u x (by simpa using h1) h2
   ·exact UI q u x h1 h2
  have LD:g<w.heap.size:=hL.lt 5 g bW
  have Mq:∀(S':Nat->Prop) (w':World),∀id r,look [(5,(⟨4,true,false,af aL []⟩:Row)),(6,⟨4,true,false,af aL []⟩)] id=some r->bJ (az [(5,(⟨4,true,false,af aL []⟩:Row)),(6,⟨4,true,false,af aL []⟩)] fun _=>none) S' w' none r:=fun S' w' id r hr=>by
   rw [aD] at hr
   split at hr
   ·cases hr;rfl
   ·rw [aD] at hr
    split at hr
    ·cases hr;rfl
    ·cases hr
  by_cases room:l.length+1≤k
  ·refine (zf w g l.length k i vb hi room Vw cS cur te fr hg gu uf h1 Ag.toList l0 Uk (by rw [Pg]) h2).mono ?_
   rintro e w' ⟨rfl,cur',rfl,bY,Oc⟩
   have dv:(w.drew.setRow g cur').heap.size=w.heap.size:=by simp [World.setRow]
   refine ⟨_,[g],fun _=>none,rfl,rfl,rfl,rfl,by rw [dv];exact Nat.le_refl _,fun b hb TE=>?_,by simp,fun b hb=>?_,fun id b h=>(by cases h),fun id b _ h=>(by cases h),⟨fun b hb=>?_,fun _ _=>rfl,fun id pe b h=>(by cases h),fun id b h=>(by cases h),fun id r hr=>Mq _ _ id r hr⟩,?_⟩
   ·exact setRow_other w.drew g b _ fun e=>TE ⟨5,by rw [e];exact bW⟩
   ·obtain rfl:=List.mem_singleton.1 hb
    exact ⟨.inr ⟨5,bW⟩,by rw [dv];exact LD,fun ⟨id,h⟩=>by cases h⟩
   ·refine ⟨?_,hb.2.2⟩
    rcases hb.1 with h|h
    ·rw [dv];exact (hL.sep b h).1
    ·exact h.2
   ·refine .inl (.inl (.own g (l.length+1) k 4 _ cur' te fr (setRow_heap w.drew g cur cur' te fr hg) (fun t ht=>gu t ag) (by rw [oS];omega) room hx (by rw [bY,uf]) fun t u x hu hx=>?_))
    have ht:t<(l.length+1)*4:=by have:=(List.getElem?_eq_some_iff.1 hx).1;omega
    rw [Oc t ht] at hu
    refine (src t u x hu hx).mono fun b hb=>?_
    have Lw:b≠g:=fun e=>(hL.sep b hb).2 ⟨5,by rw [e];exact bW⟩
    exact ⟨⟨.inl hb,fun q=>Lw (List.mem_singleton.1 q),fun ⟨id,h⟩=>(by cases h)⟩,setRow_other w.drew g b _ Lw⟩
  ·refine (Bz w g l.length k i vb hi hk ag ag cur te fr hg uf h1 Ag.toList l0 Uk (by rw [Pg]) h2).mono ?_
   rintro e w' ⟨G,rfl,WH,th,hW⟩
   obtain ⟨R,Vl,hR,QW,Wz⟩:=hW.row
   refine ⟨_,[w.heap.size],fun _=>none,rfl,hW.os,hW.tape,hW.output,by rw [hW.size];omega,fun b hb _=>hW.block b hb,by simp,fun b hb=>?_,fun id b h=>(by cases h),fun id b _ h=>(by cases h),⟨fun b hb=>?_,fun _ _=>rfl,fun id pe b h=>(by cases h),fun id b h=>(by cases h),fun id r hr=>Mq _ _ id r hr⟩,?_⟩
   ·obtain rfl:=List.mem_singleton.1 hb
    exact ⟨.inl (Nat.le_refl _),by rw [hW.size];omega,fun ⟨id,h⟩=>by cases h⟩
   ·refine ⟨?_,hb.2.2⟩
    rcases hb.1 with h|h
    ·have:=(hL.sep b h).1
     rw [hW.size];omega
    ·exact h.2
   ·refine .inl (.inl (.own w.heap.size (l.length+1) G 4 _ R Vl (0,0) hR (fun t ht=>by simp) (by rw [oS];omega) WH th QW fun t u x hu hx=>?_))
    have ht:t<(l.length+1)*4:=by have:=(List.getElem?_eq_some_iff.1 hx).1;omega
    rw [Wz t ht] at hu
    refine (src t u x hu hx).mono fun b hb=>?_
    have cW:=(hL.sep b hb).1
    exact ⟨⟨.inl hb,fun q=>by have:=List.mem_singleton.1 q;omega,fun ⟨id,h⟩=>(by cases h)⟩,hW.block b cW⟩
def PN (n:Nat) (s:AS) (d:Nat) (x:AV):AS:=match fO n s (some d) x with|some s'=>s'|none=>⟨[],[]⟩
def qH (n:Nat) (s:AS) (d1:Nat) (v:ic):AS:=PN n (install s d1 ⟨4,true,true,aL v⟩) d1 (.ref d1)
def Nz:List (Nat×Row):=[(5,⟨4,true,false,af aL []⟩),(6,⟨4,true,false,af aL []⟩)]
def IU (l:List ic) (v:ic) (i:Nat):AV:=.own 4 (af aL (l.take i++ [v]++l.drop i))
def NA (R d1:Nat):List (Nat×Row):=match j7 Nz (inv [(R,5),(d1,6)]) [(R,5),(d1,6)] with|some l=>l|none=>[]
def PW (s1:AS) (R d1 d2:Nat) (r:AV):AS:=⟨(aR (gB s1 [(R,5),(d1,6)] (NA R d1)) ((br d2 r).2.map (·.1))).F,(br d2 r).2++(aR (gB s1 [(R,5),(d1,6)] (NA R d1)) ((br d2 r).2.map (·.1))).H⟩
def Mw (n:Nat) (s1:AS) (R d1 d2:Nat) (r:AV):AS:=PN n (PW s1 R d1 d2 r) d2 (br d2 r).1
theorem dj.insert {n:Nat} {ops:List Oper} {o1 o2:Oper} {s sB:AS} {ts:Array TypeId} (R d1 d2:Nat) (l:List ic) (v:ic) (i:Nat) (x y z:Operand) (ws:List Wk) (hi:i<l.length) (hl:l.length≤1000000) (g1:o1.guard=none) (g2:o2.guard=none) (RI:o1.op= .buildSlice 30 1 #[(0,x)]) (k1:o1.dst=some d1)
  (Fb:o2.op= .call ⟨.value (.func 53),#[y,z,.tmp d1],ts⟩) (k2:o2.dst=some d2) (dk:fA s 4 0 [(0,x)]=some (aL v)) (Qp:fO n (install s d1 ⟨4,true,true,aL v⟩) (some d1) (.ref d1)=some (qH n s d1 v))
  (BH:gK (qH n s d1 v) [(R,5),(d1,6)] [(R,5),(d1,6)]=some [(5,⟨4,true,false,af aL l⟩),(6,⟨4,true,true,aL v⟩)]) (hb:j7 Nz (inv [(R,5),(d1,6)]) [(R,5),(d1,6)]=some (NA R d1)) (uh:ra [(R,5),(d1,6)]=true) (hv:nM (qH n s d1 v) Nz [(R,5),(d1,6)]=some [])
  (tF:nodupB ((br d2 (IU l v i)).2.map (·.1))=true) (Qo:fO n (PW (qH n s d1 v) R d1 d2 (IU l v i)) (some d2) (br d2 (IU l v i)).1=some (Mw n (qH n s d1 v) R d1 d2 (IU l v i))) (gZ:([y,z,.tmp d1].map fun x=>nU [(R,5),(d1,6)] (bq (qH n s d1 v) x))= [.ref 5,ai i,.ref 6]) (hinv:look (inv [(R,5),(d1,6)]) 6=some d1) (hw:wk ws (Mw n (qH n s d1 v) R d1 d2 (IU l v i))=some sB) :
  dj Tryz.prog n ops [o1,o2] s sB:=by
 obtain ⟨zero,hzero⟩:∃zero,(Tryz.prog.info? 70).bind (·.zero)=some zero:=by
  have h:((Tryz.prog.info? 70).bind (·.zero)).isSome=true:=by kernel_rfl
  exact Option.isSome_iff_exists.1 h
 refine dj.nL ws hw (dj.ins (s1:=qH n s d1 v) (d:=d1) g1 g2 (fun S0 w0 a w φ Q hs=>?_) fun S0 w0 a w φ Q hs hu=>?_)
 ·exact Sp (z:=3) RI k1 Tryz.underlying30 bu hzero (by decide) dk rfl Qp hs
 ·refine Rg (U:=PC) Fb k2 bu BH hb uh hv trivial tF Qo ?_ hs ?_
  ·have h:=zg l v i hi hl
   have e:(#[y,z,Operand.tmp d1].toList.map fun x=>nU [(R,5),(d1,6)] (bq (qH n s d1 v) x))= [.ref 5,ai i,.ref 6]:=gZ
   rw [e];exact h
  ·obtain ⟨g,cur,te,q1,q2⟩:=hu
   exact ⟨g,cur,te,by unfold er;rw [hinv];exact q1,q2⟩
end Go.Proofs.YtjgbhhnghedgdaaGreatDoor
