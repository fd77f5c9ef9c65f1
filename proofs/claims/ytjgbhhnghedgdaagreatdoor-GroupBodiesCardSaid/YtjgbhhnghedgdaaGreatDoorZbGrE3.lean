import Derived.Test.YtjgbhhnghedgdaaGreatDoorZbGrC3
set_option linter.all false
namespace Go.Proofs.YtjgbhhnghedgdaaGreatDoor
open Go.RowKit
set_option maxRecDepth 100000
set_option maxHeartbeats 4000000
def y5 (l:List Int) (k:Nat):List (Nat×Row):=[(1000000000000,⟨1,false,true,[.sl 1 (ax l),ai k]⟩)]
def mV (l:List Int) (g:gX) (i:Nat) (s:List (List UInt8)×Nat):Nat->List (List UInt8)×Nat
 | 0=>s
 | m+1=>if (g.al.getD m default).name=(dz i).name then (if (mV l g i s m).1.length=0 then ((mV l g i s m).1++ [(dz i).name],(mV l g i s m).2) else if 0<gW l (mV l g i s m).2 4 then ((mV l g i s m).1++ [(dz i).name],dU l (mV l g i s m).2) else ((mV l g i s m).1,dU l (mV l g i s m).2)) else mV l g i s m
def fJ (l:List Int) (g:gX) (k:Nat):Nat->List (List UInt8)×Nat
 | 0=>([],k)
 | i+1=>mV l g i (fJ l g k i) g.al.length
structure JG (l:List Int) (s:List (List UInt8)×Nat) (n:Nat):Prop where
 len:s.1.length≤n
 OW:∀x∈s.1,x.length≤1000
 at_:s.2≤l.length
theorem mw (i:Nat):(dz i).name.length≤1000:=Nat.le_of_ble_eq_true rfl
theorem Dj {l:List Int} (g:gX) (i:Nat) {s:List (List UInt8)×Nat} {n:Nat} (h:JG l s n):∀m,JG l (mV l g i s m) (n+m)
 | 0=>h
 | m+1=>by
  obtain ⟨h1,h2,h3⟩:=Dj g i h m
  have hs:∀x∈(mV l g i s m).1++ [(dz i).name],x.length≤1000:=fun x hx=>by
   rcases List.mem_append.1 hx with hx|hx
   ·exact h2 x hx
   ·obtain rfl:=List.mem_singleton.1 hx;exact mw i
  unfold mV
  split
  ·split
   ·exact ⟨by simp;omega,hs,h3⟩
   split
   ·exact ⟨by simp;omega,hs,dQ h3⟩
   ·exact ⟨by show (mV l g i s m).1.length≤_;omega,h2,dQ h3⟩
  ·exact ⟨aj,h2,h3⟩
theorem qq {l:List Int} (g:gX) {k:Nat} (hk:k≤l.length):∀i,JG l (fJ l g k i) (i*g.al.length)
 | 0=>⟨Nat.zero_le _,(by intro x hx;cases hx),hk⟩
 | i+1=>by
  have:=Dj g i (qq g hk i) g.al.length
  rw [Nat.succ_mul]
  exact this
theorem GU (a:List (List UInt8)) (x:List UInt8):ae ay a++ [cF x]=ae ay (a++ [x]):=fZ a x
def P7 (l:List Int) (k n:Nat):List Int:=[gW l k 5,gW l (dU l k) 9,1+gW l (dU l (dU l k)) (n+1),gW l (dU l (dU l (dU l k))) 3,20+gW l (dU l (dU l (dU l (dU l k)))) 3]
def Nw (l:List Int) (g:gX) (k:Nat):na :=
 {fI (u64 ((P7 l (fJ l g k 10).2 (fJ l g k 10).1.length).getD 0 0)) ((P7 l (fJ l g k 10).2 (fJ l g k 10).1.length).getD 1 0) (fJ l g k 10).1 ((P7 l (fJ l g k 10).2 (fJ l g k 10).1.length).getD 2 0) with
  peer:=5,box:=stream (u64 ((P7 l (fJ l g k 10).2 (fJ l g k 10).1.length).getD 3 0)+1) 7 ((P7 l (fJ l g k 10).2 (fJ l g k 10).1.length).getD 4 0)}
def Ow (l:List Int) (g:gX) (k:Nat):Nat:=dU l (dU l (dU l (dU l (dU l (fJ l g k 10).2))))
theorem yt (l:List Int) (k:Nat) (g:gX) (hk:k≤l.length) (hl:l.length≤9223372036854775807) (hm:g.al.length≤8):dh Tryz.prog 38 [.addr 1000000000000 0,.agg (bQ g)] (y5 l k) (.agg (bg (Nw l g k))) (y5 l (Ow l g k)):=by
 have m7:(ae aF g.al).length=g.al.length*4:=aG (e:=4) (fun _=>rfl) ..
 unfold y5
 refine m6 Tryz.func38 74<|zQ 2 [{},{}] []<|zS<|zq<|zB 0 (zL (fun (i:Nat)=>(⟨[(4,AV.addr 4 0),(3,AV.addr 3 0),(0,AV.addr 1000000000000 0),(1,AV.agg (bQ g)),(6,ai i),(5,AV.ref 5)],[(4,⟨1,false,true,[cQ,cQ,AV.nil,AV.nil,AV.nil,ai 0,cQ]⟩),(3,⟨1,false,true,List.map (aE 4) (List.map (aE 3) (bQ g))⟩),(5,⟨1,true,false,ae ay (fJ l g k i).1⟩),(1000000000000,⟨1,false,true,[.sl 1 (ax l),ai (fJ l g k i).2]⟩)]⟩:AS)) (fun i=>(i≤10)) (fun i=>(10-i)) (0) ?_ (zW [.nil 5 5 1,.aa [4,3,0,1,6,5] [4,3,5,1000000000000]]) ?_)
 ·omega
 intro i hi
 refine zS<|bf.jH 1 [{}] bk (s':=AS.mk [(12,ao (decide ((↑i:Int)<10))),(11,ai ↑i),(4,AV.addr 4 0),(3,AV.addr 3 0),(0,AV.addr 1000000000000 0),(1,AV.agg (bQ g)),(6,ai ↑i),(5,AV.ref 5)] [(4,Row.mk 1 false true [cQ,cQ,AV.nil,AV.nil,AV.nil,ai 0,cQ]),(3,Row.mk 1 false true (List.map (aE 4) (List.map (aE 3) (bQ g)))),(5,Row.mk 1 true false (ae ay (fJ l g k i).fst)),(1000000000000,Row.mk 1 false true [AV.sl 1 (ax l),ai (↑(fJ l g k i).snd:Int)])]) (C:=[]) bk trivial (zD 12 ((↑i:Int)<10) (fun q=>?_) (fun q=>?_))
 ·have dM:i<10:=aj
  have y0:=gu i dM
  have ho:=qq g hk i
  have rj:i*g.al.length≤80:=Nat.mul_le_mul hi hm
  have dS:fJ l g k (i+1)=mV l g i (fJ l g k i) g.al.length:=rfl
  have Ut:=fun m=>Dj g i ho m
  generalize fJ l g k i=s at *
  refine a_<|zS<|zB 1<|zq<|zB 2 (zL (fun (m:Nat)=>(⟨[(12,ao (decide ((↑i:Int)<10))),(4,AV.addr 4 0),(3,AV.addr 3 0),(0,AV.addr 1000000000000 0),(1,AV.agg (bQ g)),(6,ai ↑i),(7,ai m),(5,AV.ref 5)],[(4,⟨1,false,true,[cQ,cQ,AV.nil,AV.nil,AV.nil,ai 0,cQ]⟩),(5,⟨1,true,false,ae ay (mV l g i s m).1⟩),(1000000000000,⟨1,false,true,[.sl 1 (ax l),ai (mV l g i s m).2]⟩),(3,⟨1,false,true,bQ g⟩)]⟩:AS)) (fun m=>(m≤g.al.length)) (fun m=>(g.al.length-m)) (0) ?_ (zW [.aa [12,4,3,0,1,6,7,5] [4,5,1000000000000,3]]) ?_)
  ·omega
  intro m Ii
  obtain ⟨o1,o2,o3⟩:=Ut m
  have p_:mV l g i s (m+1)=if (g.al.getD m default).name=(dz i).name then (if (mV l g i s m).1.length=0 then ((mV l g i s m).1++ [(dz i).name],(mV l g i s m).2) else if 0<gW l (mV l g i s m).2 4 then ((mV l g i s m).1++ [(dz i).name],dU l (mV l g i s m).2) else ((mV l g i s m).1,dU l (mV l g i s m).2)) else mV l g i s m:=rfl
  have hlen:(ae ay (mV l g i s m).1).length=(mV l g i s m).1.length:=by rw [aG (e:=1) (fun _=>rfl)];omega
  generalize ht:mV l g i s m=t at *
  refine zS<|bf.jX 1 [{hs:=[(3,{k:=g.al.length})]}] [.aa [19,12,4,3,0,1,6,7,5] [4,5,1000000000000,3]] bk (s':=AS.mk [(19,ao (decide ((↑m:Int)<(↑g.al.length:Int)))),(12,ao (decide ((↑i:Int)<10))),(4,AV.addr 4 0),(3,AV.addr 3 0),(0,AV.addr 1000000000000 0),(1,AV.agg (bQ g)),(6,ai ↑i),(7,ai ↑m),(5,AV.ref 5)] [(4,Row.mk 1 false true [cQ,cQ,AV.nil,AV.nil,AV.nil,ai 0,cQ]),(5,Row.mk 1 true false (ae ay t.fst)),(1000000000000,Row.mk 1 false true [AV.sl 1 (ax l),ai (↑t.snd:Int)]),(3,Row.mk 1 false true (bQ g))]) (C:=[(ae aF g.al).length=g.al.length*4]) bk ⟨m7,trivial⟩ (zD 19 ((↑m:Int)<(↑g.al.length:Int)) (fun q2=>?_) (fun q2=>?_))
  ·have RH:m<g.al.length:=aj
   have gN:=nY RH
   by_cases cn:(g.al.getD m default).name=(dz i).name
   case neg =>
    rw [if_neg cn] at p_
    refine a_<|zS<|zB 3<|zP 1 [{hs:=[(3,{k:=m}),(5,yV (cF (g.al.getD m default).name)),(7,yV (AV.agg (aF (dz i)))),(9,yV (ao ((g.al.getD m default).name == (dz i).name))),(11,{g:=false}),(12,{g:=false}),(13,{g:=false}),(14,{g:=false}),(18,{g:=false}),(19,{b:=false})],T:=9}] [.aa [41,29,19,12,4,3,0,1,6,7,5] [4,5,1000000000000,3]] ([yR (↑m:Int),yO (m*4<(ae aF g.al).length),yB ((ae aF g.al)[m*4]?=some (cF (g.al.getD m default).name)) (bc (f:=aF) (e:=4) (k:=m) (j:=0) (fun _=>rfl) aj rfl),yI y0,yB (ao ((ByteArray.mk (g.al.getD m default).name.toArray).toList == (ByteArray.mk (dz i).name.toArray).toList)=ao ((g.al.getD m default).name == (dz i).name)) (fN ((g.al.getD m default).name) ((dz i).name))]++yM 6 (yB (((g.al.getD m default).name == (dz i).name)=false) (by simp_all)))<|zF 41<|zK<|aL<|aq<|zX (yH [(1,yV (ai ((↑m:Int)+1)))]) [yN ((↑m:Int)+1)] (aK (m+1) (by assumption) aj (eQ [.aa [12,4,3,0,1,6,7,5] [4,5,1000000000000,3]] [] [5,1000000000000] [yB (ae ay t.fst=ae ay (mV l g i s (m+1)).fst) (by rw [p_]),yB ([AV.sl 1 (ax l),ai (↑t.snd:Int)]= [AV.sl 1 (ax l),ai (↑(mV l g i s (m+1)).snd:Int)]) (by rw [p_])]))
   rw [if_pos cn] at p_
   have ss:=GU t.1 (dz i).name
   by_cases c0:t.1.length=0
   ·rw [if_pos c0] at p_
    refine a_<|zS<|zB 3<|zP 1 [{hs:=[(3,{k:=m}),(5,yV (cF (g.al.getD m default).name)),(7,yV (AV.agg (aF (dz i)))),(9,yV (ao ((g.al.getD m default).name == (dz i).name))),(12,{k:=(ae ay t.fst).length})],T:=9}] [.aa [41,29,19,12,4,3,0,1,6,7,5] [4,5,1000000000000,3]] ([yR (↑m:Int),yO (m*4<(ae aF g.al).length),yB ((ae aF g.al)[m*4]?=some (cF (g.al.getD m default).name)) (bc (f:=aF) (e:=4) (k:=m) (j:=0) (fun _=>rfl) aj rfl),yI y0,yB (ao ((ByteArray.mk (g.al.getD m default).name.toArray).toList == (ByteArray.mk (dz i).name.toArray).toList)=ao ((g.al.getD m default).name == (dz i).name)) (fN ((g.al.getD m default).name) ((dz i).name))]++yM 2 (yB (((g.al.getD m default).name == (dz i).name)=true) (by simp_all))++ [yR ((ae ay t.fst).length)]++yM 2 (yB (((g.al.getD m default).name == (dz i).name)=true) (by simp_all))++yM 3 (yB (((↑(ae ay t.fst).length:Int) == (0:Int))=true) fg)++ [yB (((g.al.getD m default).name == (dz i).name)=true) (by simp_all),yB (((↑(ae ay t.fst).length:Int) == (0:Int))=true) (by simp_all),yB (((g.al.getD m default).name == (dz i).name)=true) (by simp_all)])<|zT 41<|zX (yH [(2,yV (AV.agg (aF (dz i))))]) [yI y0,yO (((ae ay t.fst).length+1)*16≤140737488355328)]<|aL<|aq<|zX (yH [(1,yV (ai ((↑m:Int)+1)))]) [yN ((↑m:Int)+1)] (aK (m+1) (by assumption) aj (eQ [.vp 47 5,.aa [12,4,3,0,1,6,7,5] [4,5,1000000000000,3]] [] [5,1000000000000] [yB (ae ay t.fst++ [cF (dz i).name]=ae ay (mV l g i s (m+1)).fst) (by rw [p_];exact ss),yB ([AV.sl 1 (ax l),ai (↑t.snd:Int)]= [AV.sl 1 (ax l),ai (↑(mV l g i s (m+1)).snd:Int)]) (by rw [p_])]))
   rw [if_neg c0] at p_
   have N1:=dH l t.2 4 o3 hl (by decide) (by decide)
   by_cases cd:0<gW l t.2 4
   ·rw [if_pos cd] at p_
    refine a_<|zS<|zB 3<|zP 1 [{hs:=[(3,{k:=m}),(5,yV (cF (g.al.getD m default).name)),(7,yV (AV.agg (aF (dz i)))),(9,yV (ao ((g.al.getD m default).name == (dz i).name))),(12,{k:=(ae ay t.fst).length}),(15,{g:=false}),(16,{av:=some (ai (↑(gW l t.snd (4:Int)):Int)),g:=false,ln:=[(1000000000000,1000000000000)],ho:=[(1000000000000,Row.mk 1 false true [AV.sl 1 (ax l),ai (↑(dU l t.snd):Int)])]}),(17,{g:=false}),(18,{b:=false})],T:=9}] [.aa [41,29,19,12,4,3,0,1,6,7,5] [1000000000000,4,5,3]] ([yR (↑m:Int),yO (m*4<(ae aF g.al).length),yB ((ae aF g.al)[m*4]?=some (cF (g.al.getD m default).name)) (bc (f:=aF) (e:=4) (k:=m) (j:=0) (fun _=>rfl) aj rfl),yI y0,yB (ao ((ByteArray.mk (g.al.getD m default).name.toArray).toList == (ByteArray.mk (dz i).name.toArray).toList)=ao ((g.al.getD m default).name == (dz i).name)) (fN ((g.al.getD m default).name) ((dz i).name))]++yM 2 (yB (((g.al.getD m default).name == (dz i).name)=true) (by simp_all))++ [yR ((ae ay t.fst).length)]++yM 2 (yB (((g.al.getD m default).name == (dz i).name)=true) (by simp_all))++yM 2 (yB (((↑(ae ay t.fst).length:Int) == (0:Int))=false) bE)++ [yI N1,yB ([AV.sl 1 (ax l),ai (↑t.snd:Int)].length= [AV.sl 1 (ax l),ai (↑(dU l t.snd):Int)].length∧0< [AV.sl 1 (ax l),ai (↑(dU l t.snd):Int)].length) ⟨rfl,Nat.succ_pos _⟩,yB (((↑(ae ay t.fst).length:Int) == (0:Int))=false) bE,yB (((g.al.getD m default).name == (dz i).name)=true) (by simp_all),yB (((↑(ae ay t.fst).length:Int) == (0:Int))=false) (by simp_all),yB (((g.al.getD m default).name == (dz i).name)=true) (by simp_all)])<|gU 41 ((↑(gW l t.snd (4:Int)):Int)>0)<|zX (yH [(2,yV (AV.agg (aF (dz i))))]) [yI y0,yO (((ae ay t.fst).length+1)*16≤140737488355328)]<|aL<|aq<|zX (yH [(1,yV (ai ((↑m:Int)+1)))]) [yN ((↑m:Int)+1)] (aK (m+1) (by assumption) aj (eQ [.vp 47 5,.aa [12,4,3,0,1,6,7,5] [4,5,1000000000000,3]] [] [5,1000000000000] [yB (ae ay t.fst++ [cF (dz i).name]=ae ay (mV l g i s (m+1)).fst) (by rw [p_];exact ss),yB ([AV.sl 1 (ax l),ai (↑(dU l t.snd):Int)]= [AV.sl 1 (ax l),ai (↑(mV l g i s (m+1)).snd:Int)]) (by rw [p_])]))
   ·rw [if_neg cd] at p_
    refine a_<|zS<|zB 3<|zP 1 [{hs:=[(3,{k:=m}),(5,yV (cF (g.al.getD m default).name)),(7,yV (AV.agg (aF (dz i)))),(9,yV (ao ((g.al.getD m default).name == (dz i).name))),(12,{k:=(ae ay t.fst).length}),(15,{g:=false}),(16,{av:=some (ai (↑(gW l t.snd (4:Int)):Int)),g:=false,ln:=[(1000000000000,1000000000000)],ho:=[(1000000000000,Row.mk 1 false true [AV.sl 1 (ax l),ai (↑(dU l t.snd):Int)])]}),(17,{g:=false}),(18,{b:=false})],T:=9}] [.aa [41,29,19,12,4,3,0,1,6,7,5] [1000000000000,4,5,3]] ([yR (↑m:Int),yO (m*4<(ae aF g.al).length),yB ((ae aF g.al)[m*4]?=some (cF (g.al.getD m default).name)) (bc (f:=aF) (e:=4) (k:=m) (j:=0) (fun _=>rfl) aj rfl),yI y0,yB (ao ((ByteArray.mk (g.al.getD m default).name.toArray).toList == (ByteArray.mk (dz i).name.toArray).toList)=ao ((g.al.getD m default).name == (dz i).name)) (fN ((g.al.getD m default).name) ((dz i).name))]++yM 2 (yB (((g.al.getD m default).name == (dz i).name)=true) (by simp_all))++ [yR ((ae ay t.fst).length)]++yM 2 (yB (((g.al.getD m default).name == (dz i).name)=true) (by simp_all))++yM 2 (yB (((↑(ae ay t.fst).length:Int) == (0:Int))=false) bE)++ [yI N1,yB ([AV.sl 1 (ax l),ai (↑t.snd:Int)].length= [AV.sl 1 (ax l),ai (↑(dU l t.snd):Int)].length∧0< [AV.sl 1 (ax l),ai (↑(dU l t.snd):Int)].length) ⟨rfl,Nat.succ_pos _⟩,yB (((↑(ae ay t.fst).length:Int) == (0:Int))=false) bE,yB (((g.al.getD m default).name == (dz i).name)=true) (by simp_all),yB (((↑(ae ay t.fst).length:Int) == (0:Int))=false) (by simp_all),yB (((g.al.getD m default).name == (dz i).name)=true) (by simp_all)])<|dt 41 ((↑(gW l t.snd (4:Int)):Int)>0)<|zK<|aL<|aq<|zX (yH [(1,yV (ai ((↑m:Int)+1)))]) [yN ((↑m:Int)+1)] (aK (m+1) (by assumption) aj (eQ [.aa [12,4,3,0,1,6,7,5] [4,5,1000000000000,3]] [] [5,1000000000000] [yB (ae ay t.fst=ae ay (mV l g i s (m+1)).fst) (by rw [p_]),yB ([AV.sl 1 (ax l),ai (↑(dU l t.snd):Int)]= [AV.sl 1 (ax l),ai (↑(mV l g i s (m+1)).snd:Int)]) (by rw [p_])]))
  ·have em:m=g.al.length:=aj
   subst em
   refine zE 2<|ba<|aS<|br<|aL<|aq<|zX (yH [(1,yV (ai ((↑i:Int)+1)))]) [yN ((↑i:Int)+1)] (aK (i+1) (by assumption) aj (eQ [.aa [4,3,0,1,6,5] [4,3,5,1000000000000]] [] [5,1000000000000] [yB (ae ay t.fst=ae ay (fJ l g k (i+1)).fst) (by rw [dS,ht]),yB ([AV.sl 1 (ax l),ai (↑t.snd:Int)]= [AV.sl 1 (ax l),ai (↑(fJ l g k (i+1)).snd:Int)]) (by rw [dS,ht])]))
 ·have ei:i=10:=aj
  subst ei
  have ho:=qq g hk 10
  have hD:Nw l g k= {fI (u64 (gW l (fJ l g k 10).2 5)) (gW l (dU l (fJ l g k 10).2) 9) (fJ l g k 10).1 (1+gW l (dU l (dU l (fJ l g k 10).2)) ((fJ l g k 10).1.length+1)) with peer:=5,box:=stream (u64 (gW l (dU l (dU l (dU l (fJ l g k 10).2))) 3)+1) 7 (20+gW l (dU l (dU l (dU l (dU l (fJ l g k 10).2)))) 3)}:=rfl
  have hA:Ow l g k=dU l (dU l (dU l (dU l (dU l (fJ l g k 10).2)))):=rfl
  generalize fJ l g k 10=s at *
  obtain ⟨L,k0⟩:=s
  obtain ⟨o1,o2,o3⟩:=ho
  simp only at o1 o2 o3 hD hA
  have hlen:(ae ay L).length=L.length:=by rw [aG (e:=1) (fun _=>rfl)];omega
  have U9:L.length≤80:=Nat.le_trans o1 (Nat.mul_le_mul (Nat.le_refl _) hm)
  have N1:=dH l k0 5 o3 hl (by decide) (by decide)
  have a1:=dQ o3
  generalize gW l k0 5=x1 at *
  generalize dU l k0=k1 at *
  have N2:=dH l k1 9 a1 hl (by decide) (by decide)
  have a2:=dQ a1
  generalize gW l k1 9=x2 at *
  generalize dU l k1=k2 at *
  rw [show (L.length:Int)=((ae ay L).length:Int) by omega] at hD
  have N3:=dH l k2 (((ae ay L).length:Int)+1) a2 hl aj aj
  have b3:=lG l k2 (n:=((ae ay L).length:Int)+1) aj
  have a3:=dQ a2
  generalize gW l k2 (((ae ay L).length:Int)+1)=x3 at *
  generalize dU l k2=k3 at *
  have N4:=dH l k3 3 a3 hl (by decide) (by decide)
  have a4:=dQ a3
  generalize gW l k3 3=x4 at *
  generalize dU l k3=k4 at *
  have N5:=dH l k4 3 a4 hl (by decide) (by decide)
  have b5:=lG l k4 (n:=3) (by decide)
  generalize gW l k4 3=x5 at *
  generalize dU l k4=k5 at *
  have Pr:=tU (u64 x1) x2 L (1+x3) aj (fun i hi=>o2 _ (by rw [List.getD_eq_getElem?_getD,List.getElem?_eq_getElem hi];exact List.getElem_mem hi))
  have xT:=Gg x4 (20+x5)
  rw [hD,hA]
  generalize fI (u64 x1) x2 L (1+x3)=D at *
  generalize sy (u64 x1) x2 L (1+x3)=SS at *
  generalize qT L (1+x3)=PE at *
  generalize stream (u64 x4+1) 7 (20+x5)=T at *
  have VG:IntKind.i64.wrap (1+(x3:Int))=1+(x3:Int):=by rw [IntKind.wrap_i64];omega
  have VF:IntKind.i64.wrap (20+(x5:Int))=20+(x5:Int):=by rw [IntKind.wrap_i64];omega
  refine zE 0<|ba<|aS<|br<|aq<|zP 3 [yH [(1,{av:=some (ai ↑x1),ln:=[(1000000000000,1000000000000)],ho:=[(1000000000000,Row.mk 1 false true [AV.sl 1 (ax l),ai ↑k1])]}),(2,yV (aw (u64 (↑x1:Int)))),(4,{av:=some (ai ↑x2),ln:=[(1000000000000,1000000000000)],ho:=[(1000000000000,Row.mk 1 false true [AV.sl 1 (ax l),ai ↑k2])]}),(8,{k:=(ae ay L).length}),(9,yV (ai ((↑(ae ay L).length:Int)+1))),(10,{av:=some (ai ↑x3),ln:=[(1000000000000,1000000000000)],ho:=[(1000000000000,Row.mk 1 false true [AV.sl 1 (ax l),ai ↑k3])]}),(11,yV (ai ((1:Int)+(↑x3:Int)))),(12,{av:=some (AV.bt [AV.agg [aw D.bZ,aw D.peer,AV.own 1 (ag D.box),AV.own 1 (ae ay D.af),AV.own 1 (ah D.au),ai D.need,aw D.target],AV.own 1 (ae sO SS),ai PE]),b:=false})],yH [(1,{av:=some (ai ↑x4),ln:=[(1000000000000,1000000000000)],ho:=[(1000000000000,Row.mk 1 false true [AV.sl 1 (ax l),ai ↑k4])]}),(3,{av:=some (ai ↑x5),ln:=[(1000000000000,1000000000000)],ho:=[(1000000000000,Row.mk 1 false true [AV.sl 1 (ax l),ai ↑k5])]}),(4,yV (ai ((20:Int)+(↑x5:Int)))),(5,yV (AV.own 1 (ag T)))],{}] [.aa [8,12,4,3,0,1,6,5] [4,8,70,1000000000000,501061,401061,3]] [yI N1,yB ([AV.sl 1 (ax l),ai ↑k0].length= [AV.sl 1 (ax l),ai ↑k1].length∧0< [AV.sl 1 (ax l),ai ↑k1].length) ⟨rfl,Nat.succ_pos _⟩,yI (aY ((↑x1:Int))),yI N2,yB ([AV.sl 1 (ax l),ai ↑k1].length= [AV.sl 1 (ax l),ai ↑k2].length∧0< [AV.sl 1 (ax l),ai ↑k2].length) ⟨rfl,Nat.succ_pos _⟩,yR ((ae ay L).length),yN ((↑(ae ay L).length:Int)+1),yI N3,yB ([AV.sl 1 (ax l),ai ↑k2].length= [AV.sl 1 (ax l),ai ↑k3].length∧0< [AV.sl 1 (ax l),ai ↑k3].length) ⟨rfl,Nat.succ_pos _⟩,yN ((1:Int)+(↑x3:Int)),yI Pr,yL 7 7,yI N4,yB ([AV.sl 1 (ax l),ai ↑k3].length= [AV.sl 1 (ax l),ai ↑k4].length∧0< [AV.sl 1 (ax l),ai ↑k4].length) ⟨rfl,Nat.succ_pos _⟩,yI N5,yB ([AV.sl 1 (ax l),ai ↑k4].length= [AV.sl 1 (ax l),ai ↑k5].length∧0< [AV.sl 1 (ax l),ai ↑k5].length) ⟨rfl,Nat.succ_pos _⟩,yN ((20:Int)+(↑x5:Int)),yI xT,yI (aR T),yL 2 7,yL 3 7,yL 7 7]<|zR (zG [.gP 70,.gP 401061,.gP 501061] [yR (Value.int .u64 (wv D.bZ)),yR (Value.int .u64 5),yR (ag T),yR (ae ay D.af),yR (ah D.au),yR (Value.int .i64 D.need),yR (Value.int .u64 (wv D.target)),yR [AV.sl 1 (ax l),ai ↑k5]])
end Go.Proofs.YtjgbhhnghedgdaaGreatDoor
