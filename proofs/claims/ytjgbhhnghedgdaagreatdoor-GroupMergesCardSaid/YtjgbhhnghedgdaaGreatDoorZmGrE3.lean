import Derived.Test.YtjgbhhnghedgdaaGreatDoorZmGrC3
set_option linter.all false
namespace Go.Proofs.YtjgbhhnghedgdaaGreatDoor
open Go.RowKit
set_option maxRecDepth 100000
set_option maxHeartbeats 4000000
def z_ (l:List Int) (k:Nat):List (Nat×Row):=[(1000000000000,⟨1,false,true,[.sl 1 (au l),ai k]⟩)]
def m_ (l:List Int) (g:gp) (i:Nat) (s:List (List UInt8)×Nat):Nat->List (List UInt8)×Nat
 | 0=>s
 | m+1=>if (g.al.getD m default).name=(dJ i).name then (if (m_ l g i s m).1.length=0 then ((m_ l g i s m).1++ [(dJ i).name],(m_ l g i s m).2) else if 0<gW l (m_ l g i s m).2 4 then ((m_ l g i s m).1++ [(dJ i).name],dU l (m_ l g i s m).2) else ((m_ l g i s m).1,dU l (m_ l g i s m).2)) else m_ l g i s m
def fN (l:List Int) (g:gp) (k:Nat):Nat->List (List UInt8)×Nat
 | 0=>([],k)
 | i+1=>m_ l g i (fN l g k i) g.al.length
structure Ke (l:List Int) (s:List (List UInt8)×Nat) (n:Nat):Prop where
 len:s.1.length≤n
 QZ:∀x∈s.1,x.length≤1000
 at_:s.2≤l.length
theorem mF (i:Nat):(dJ i).name.length≤1000:=Nat.le_of_ble_eq_true rfl
theorem DX {l:List Int} (g:gp) (i:Nat) {s:List (List UInt8)×Nat} {n:Nat} (h:Ke l s n):∀m,Ke l (m_ l g i s m) (n+m)
 | 0=>h
 | m+1=>by
  obtain ⟨h1,h2,h3⟩:=DX g i h m
  have hs:∀x∈(m_ l g i s m).1++ [(dJ i).name],x.length≤1000:=fun x hx=>by
   rcases List.mem_append.1 hx with hx|hx
   ·exact h2 x hx
   ·obtain rfl:=List.mem_singleton.1 hx;exact mF i
  unfold m_
  split
  ·split
   ·exact ⟨by simp;omega,hs,h3⟩
   split
   ·exact ⟨by simp;omega,hs,dO h3⟩
   ·exact ⟨by show (m_ l g i s m).1.length≤_;omega,h2,dO h3⟩
  ·exact ⟨ah,h2,h3⟩
theorem qG {l:List Int} (g:gp) {k:Nat} (hk:k≤l.length):∀i,Ke l (fN l g k i) (i*g.al.length)
 | 0=>⟨Nat.zero_le _,(by intro x hx;cases hx),hk⟩
 | i+1=>by
  have:=DX g i (qG g hk i) g.al.length
  rw [Nat.succ_mul]
  exact this
theorem Hw (a:List (List UInt8)) (x:List UInt8):ae ax a++ [cQ x]=ae ax (a++ [x]):=fh a x
def QC (l:List Int) (k n:Nat):List Int:=[gW l k 5,gW l (dU l k) 9,1+gW l (dU l (dU l k)) (n+1),gW l (dU l (dU l (dU l k))) 3,20+gW l (dU l (dU l (dU l (dU l k)))) 3]
def Of (l:List Int) (g:gp) (k:Nat):np :=
 {fK (u64 ((QC l (fN l g k 10).2 (fN l g k 10).1.length).getD 0 0)) ((QC l (fN l g k 10).2 (fN l g k 10).1.length).getD 1 0) (fN l g k 10).1 ((QC l (fN l g k 10).2 (fN l g k 10).1.length).getD 2 0) with
  peer:=5,box:=stream (u64 ((QC l (fN l g k 10).2 (fN l g k 10).1.length).getD 3 0)+1) 7 ((QC l (fN l g k 10).2 (fN l g k 10).1.length).getD 4 0)}
def O9 (l:List Int) (g:gp) (k:Nat):Nat:=dU l (dU l (dU l (dU l (dU l (fN l g k 10).2))))
theorem zu (l:List Int) (k:Nat) (g:gp) (hk:k≤l.length) (hl:l.length≤9223372036854775807) (hm:g.al.length≤8):gm Tryz.prog 38 [.addr 1000000000000 0,.agg (bo g)] (z_ l k) (.agg (a_ (Of l g k))) (z_ l (O9 l g k)):=by
 have ml:(ae aG g.al).length=g.al.length*4:=aE (e:=4) (fun _=>rfl) ..
 unfold z_
 refine nj Tryz.func38 74<|zQ 2 [{},{}] []<|zS<|zq<|zB 0 (zL (fun (i:Nat)=>(⟨[(4,AV.addr 4 0),(3,AV.addr 3 0),(0,AV.addr 1000000000000 0),(1,AV.agg (bo g)),(6,ai i),(5,AV.ref 5)],[(4,⟨1,false,true,[cN,cN,AV.nil,AV.nil,AV.nil,ai 0,cN]⟩),(3,⟨1,false,true,List.map (aB 4) (List.map (aB 3) (bo g))⟩),(5,⟨1,true,false,ae ax (fN l g k i).1⟩),(1000000000000,⟨1,false,true,[.sl 1 (au l),ai (fN l g k i).2]⟩)]⟩:AS)) (fun i=>(i≤10)) (fun i=>(10-i)) (0) ?_ (zW [.nil 5 5 1,.aa [4,3,0,1,6,5] [4,3,5,1000000000000]]) ?_)
 ·omega
 intro i hi
 refine zS<|bf.jJ 1 [{}] bt (s':=AS.mk [(12,ao (decide ((↑i:Int)<10))),(11,ai ↑i),(4,AV.addr 4 0),(3,AV.addr 3 0),(0,AV.addr 1000000000000 0),(1,AV.agg (bo g)),(6,ai ↑i),(5,AV.ref 5)] [(4,Row.mk 1 false true [cN,cN,AV.nil,AV.nil,AV.nil,ai 0,cN]),(3,Row.mk 1 false true (List.map (aB 4) (List.map (aB 3) (bo g)))),(5,Row.mk 1 true false (ae ax (fN l g k i).fst)),(1000000000000,Row.mk 1 false true [AV.sl 1 (au l),ai (↑(fN l g k i).snd:Int)])]) (C:=[]) bt trivial (zD 12 ((↑i:Int)<10) (fun q=>?_) (fun q=>?_))
 ·have cX:i<10:=ah
  have z7:=fP i cX
  have ho:=qG g hk i
  have rF:i*g.al.length≤80:=Nat.mul_le_mul hi hm
  have dC:fN l g k (i+1)=m_ l g i (fN l g k i) g.al.length:=rfl
  have U9:=fun m=>DX g i ho m
  generalize fN l g k i=s at *
  refine aW<|zS<|zB 1<|zq<|zB 2 (zL (fun (m:Nat)=>(⟨[(12,ao (decide ((↑i:Int)<10))),(4,AV.addr 4 0),(3,AV.addr 3 0),(0,AV.addr 1000000000000 0),(1,AV.agg (bo g)),(6,ai ↑i),(7,ai m),(5,AV.ref 5)],[(4,⟨1,false,true,[cN,cN,AV.nil,AV.nil,AV.nil,ai 0,cN]⟩),(5,⟨1,true,false,ae ax (m_ l g i s m).1⟩),(1000000000000,⟨1,false,true,[.sl 1 (au l),ai (m_ l g i s m).2]⟩),(3,⟨1,false,true,bo g⟩)]⟩:AS)) (fun m=>(m≤g.al.length)) (fun m=>(g.al.length-m)) (0) ?_ (zW [.aa [12,4,3,0,1,6,7,5] [4,5,1000000000000,3]]) ?_)
  ·omega
  intro m IY
  obtain ⟨o1,o2,o3⟩:=U9 m
  have qm:m_ l g i s (m+1)=if (g.al.getD m default).name=(dJ i).name then (if (m_ l g i s m).1.length=0 then ((m_ l g i s m).1++ [(dJ i).name],(m_ l g i s m).2) else if 0<gW l (m_ l g i s m).2 4 then ((m_ l g i s m).1++ [(dJ i).name],dU l (m_ l g i s m).2) else ((m_ l g i s m).1,dU l (m_ l g i s m).2)) else m_ l g i s m:=rfl
  have hlen:(ae ax (m_ l g i s m).1).length=(m_ l g i s m).1.length:=by rw [aE (e:=1) (fun _=>rfl)];omega
  generalize ht:m_ l g i s m=t at *
  refine zS<|bf.jZ 1 [{hs:=[(3,{k:=g.al.length})]}] [.aa [19,12,4,3,0,1,6,7,5] [4,5,1000000000000,3]] bt (s':=AS.mk [(19,ao (decide ((↑m:Int)<(↑g.al.length:Int)))),(12,ao (decide ((↑i:Int)<10))),(4,AV.addr 4 0),(3,AV.addr 3 0),(0,AV.addr 1000000000000 0),(1,AV.agg (bo g)),(6,ai ↑i),(7,ai ↑m),(5,AV.ref 5)] [(4,Row.mk 1 false true [cN,cN,AV.nil,AV.nil,AV.nil,ai 0,cN]),(5,Row.mk 1 true false (ae ax t.fst)),(1000000000000,Row.mk 1 false true [AV.sl 1 (au l),ai (↑t.snd:Int)]),(3,Row.mk 1 false true (bo g))]) (C:=[(ae aG g.al).length=g.al.length*4]) bt ⟨ml,trivial⟩ (zD 19 ((↑m:Int)<(↑g.al.length:Int)) (fun q2=>?_) (fun q2=>?_))
  ·have Sk:m<g.al.length:=ah
   have gh:=mE Sk
   by_cases cn:(g.al.getD m default).name=(dJ i).name
   case neg =>
    rw [if_neg cn] at qm
    refine aW<|zS<|zB 3<|zP 1 [{hs:=[(3,{k:=m}),(5,yV (cQ (g.al.getD m default).name)),(7,yV (AV.agg (aG (dJ i)))),(9,yV (ao ((g.al.getD m default).name == (dJ i).name))),(11,{g:=false}),(12,{g:=false}),(13,{g:=false}),(14,{g:=false}),(18,{g:=false}),(19,{b:=false})],T:=9}] [.aa [41,29,19,12,4,3,0,1,6,7,5] [4,5,1000000000000,3]] ([yR (↑m:Int),yO (m*4<(ae aG g.al).length),yA aG g.al m 0,yI z7,yI (eU ((g.al.getD m default).name) ((dJ i).name))]++yM 6 (yS (((g.al.getD m default).name == (dJ i).name)=false)))<|zF 41<|zK<|aM<|ak<|zX (yH [(1,yV (ai ((↑m:Int)+1)))]) [yN ((↑m:Int)+1)] (aH (m+1) (by assumption) ah (eu [.aa [12,4,3,0,1,6,7,5] [4,5,1000000000000,3]] [] [5,1000000000000] [yB (ae ax t.fst=ae ax (m_ l g i s (m+1)).fst) (by rw [qm]),yB ([AV.sl 1 (au l),ai (↑t.snd:Int)]= [AV.sl 1 (au l),ai (↑(m_ l g i s (m+1)).snd:Int)]) (by rw [qm])]))
   rw [if_pos cn] at qm
   have ss:=Hw t.1 (dJ i).name
   by_cases c0:t.1.length=0
   ·rw [if_pos c0] at qm
    refine aW<|zS<|zB 3<|zP 1 [{hs:=[(3,{k:=m}),(5,yV (cQ (g.al.getD m default).name)),(7,yV (AV.agg (aG (dJ i)))),(9,yV (ao ((g.al.getD m default).name == (dJ i).name))),(12,{k:=(ae ax t.fst).length})],T:=9}] [.aa [41,29,19,12,4,3,0,1,6,7,5] [4,5,1000000000000,3]] ([yR (↑m:Int),yO (m*4<(ae aG g.al).length),yA aG g.al m 0,yI z7,yI (eU ((g.al.getD m default).name) ((dJ i).name))]++yM 2 (yS (((g.al.getD m default).name == (dJ i).name)=true))++ [yR ((ae ax t.fst).length)]++yM 2 (yS (((g.al.getD m default).name == (dJ i).name)=true))++yM 3 (yB (((↑(ae ax t.fst).length:Int) == (0:Int))=true) eg)++ [yS (((g.al.getD m default).name == (dJ i).name)=true),yS (((↑(ae ax t.fst).length:Int) == (0:Int))=true),yS (((g.al.getD m default).name == (dJ i).name)=true)])<|zT 41<|zX (yH [(2,yV (AV.agg (aG (dJ i))))]) [yI z7,yO (((ae ax t.fst).length+1)*16≤140737488355328)]<|aM<|ak<|zX (yH [(1,yV (ai ((↑m:Int)+1)))]) [yN ((↑m:Int)+1)] (aH (m+1) (by assumption) ah (eu [.vK 47 5,.aa [12,4,3,0,1,6,7,5] [4,5,1000000000000,3]] [] [5,1000000000000] [yB (ae ax t.fst++ [cQ (dJ i).name]=ae ax (m_ l g i s (m+1)).fst) (by rw [qm];exact ss),yB ([AV.sl 1 (au l),ai (↑t.snd:Int)]= [AV.sl 1 (au l),ai (↑(m_ l g i s (m+1)).snd:Int)]) (by rw [qm])]))
   rw [if_neg c0] at qm
   have N1:=dF l t.2 4 o3 hl (by decide) (by decide)
   by_cases cd:0<gW l t.2 4
   ·rw [if_pos cd] at qm
    refine aW<|zS<|zB 3<|zP 1 [{hs:=[(3,{k:=m}),(5,yV (cQ (g.al.getD m default).name)),(7,yV (AV.agg (aG (dJ i)))),(9,yV (ao ((g.al.getD m default).name == (dJ i).name))),(12,{k:=(ae ax t.fst).length}),(15,{g:=false}),(16,{av:=some (ai (↑(gW l t.snd (4:Int)):Int)),g:=false,ln:=[(1000000000000,1000000000000)],ho:=[(1000000000000,Row.mk 1 false true [AV.sl 1 (au l),ai (↑(dU l t.snd):Int)])]}),(17,{g:=false}),(18,{b:=false})],T:=9}] [.aa [41,29,19,12,4,3,0,1,6,7,5] [1000000000000,4,5,3]] ([yR (↑m:Int),yO (m*4<(ae aG g.al).length),yA aG g.al m 0,yI z7,yI (eU ((g.al.getD m default).name) ((dJ i).name))]++yM 2 (yS (((g.al.getD m default).name == (dJ i).name)=true))++ [yR ((ae ax t.fst).length)]++yM 2 (yS (((g.al.getD m default).name == (dJ i).name)=true))++yM 2 (yB (((↑(ae ax t.fst).length:Int) == (0:Int))=false) bD)++ [yI N1,yB ([AV.sl 1 (au l),ai (↑t.snd:Int)].length= [AV.sl 1 (au l),ai (↑(dU l t.snd):Int)].length∧0< [AV.sl 1 (au l),ai (↑(dU l t.snd):Int)].length) ⟨rfl,Nat.succ_pos _⟩,yB (((↑(ae ax t.fst).length:Int) == (0:Int))=false) bD,yS (((g.al.getD m default).name == (dJ i).name)=true),yS (((↑(ae ax t.fst).length:Int) == (0:Int))=false),yS (((g.al.getD m default).name == (dJ i).name)=true)])<|gN 41 ((↑(gW l t.snd (4:Int)):Int)>0)<|zX (yH [(2,yV (AV.agg (aG (dJ i))))]) [yI z7,yO (((ae ax t.fst).length+1)*16≤140737488355328)]<|aM<|ak<|zX (yH [(1,yV (ai ((↑m:Int)+1)))]) [yN ((↑m:Int)+1)] (aH (m+1) (by assumption) ah (eu [.vK 47 5,.aa [12,4,3,0,1,6,7,5] [4,5,1000000000000,3]] [] [5,1000000000000] [yB (ae ax t.fst++ [cQ (dJ i).name]=ae ax (m_ l g i s (m+1)).fst) (by rw [qm];exact ss),yB ([AV.sl 1 (au l),ai (↑(dU l t.snd):Int)]= [AV.sl 1 (au l),ai (↑(m_ l g i s (m+1)).snd:Int)]) (by rw [qm])]))
   ·rw [if_neg cd] at qm
    refine aW<|zS<|zB 3<|zP 1 [{hs:=[(3,{k:=m}),(5,yV (cQ (g.al.getD m default).name)),(7,yV (AV.agg (aG (dJ i)))),(9,yV (ao ((g.al.getD m default).name == (dJ i).name))),(12,{k:=(ae ax t.fst).length}),(15,{g:=false}),(16,{av:=some (ai (↑(gW l t.snd (4:Int)):Int)),g:=false,ln:=[(1000000000000,1000000000000)],ho:=[(1000000000000,Row.mk 1 false true [AV.sl 1 (au l),ai (↑(dU l t.snd):Int)])]}),(17,{g:=false}),(18,{b:=false})],T:=9}] [.aa [41,29,19,12,4,3,0,1,6,7,5] [1000000000000,4,5,3]] ([yR (↑m:Int),yO (m*4<(ae aG g.al).length),yA aG g.al m 0,yI z7,yI (eU ((g.al.getD m default).name) ((dJ i).name))]++yM 2 (yS (((g.al.getD m default).name == (dJ i).name)=true))++ [yR ((ae ax t.fst).length)]++yM 2 (yS (((g.al.getD m default).name == (dJ i).name)=true))++yM 2 (yB (((↑(ae ax t.fst).length:Int) == (0:Int))=false) bD)++ [yI N1,yB ([AV.sl 1 (au l),ai (↑t.snd:Int)].length= [AV.sl 1 (au l),ai (↑(dU l t.snd):Int)].length∧0< [AV.sl 1 (au l),ai (↑(dU l t.snd):Int)].length) ⟨rfl,Nat.succ_pos _⟩,yB (((↑(ae ax t.fst).length:Int) == (0:Int))=false) bD,yS (((g.al.getD m default).name == (dJ i).name)=true),yS (((↑(ae ax t.fst).length:Int) == (0:Int))=false),yS (((g.al.getD m default).name == (dJ i).name)=true)])<|dq 41 ((↑(gW l t.snd (4:Int)):Int)>0)<|zK<|aM<|ak<|zX (yH [(1,yV (ai ((↑m:Int)+1)))]) [yN ((↑m:Int)+1)] (aH (m+1) (by assumption) ah (eu [.aa [12,4,3,0,1,6,7,5] [4,5,1000000000000,3]] [] [5,1000000000000] [yB (ae ax t.fst=ae ax (m_ l g i s (m+1)).fst) (by rw [qm]),yB ([AV.sl 1 (au l),ai (↑(dU l t.snd):Int)]= [AV.sl 1 (au l),ai (↑(m_ l g i s (m+1)).snd:Int)]) (by rw [qm])]))
  ·have em:m=g.al.length:=ah
   subst em
   refine zE 2<|aS<|aK<|bg<|aM<|ak<|zX (yH [(1,yV (ai ((↑i:Int)+1)))]) [yN ((↑i:Int)+1)] (aH (i+1) (by assumption) ah (eu [.aa [4,3,0,1,6,5] [4,3,5,1000000000000]] [] [5,1000000000000] [yB (ae ax t.fst=ae ax (fN l g k (i+1)).fst) (by rw [dC,ht]),yB ([AV.sl 1 (au l),ai (↑t.snd:Int)]= [AV.sl 1 (au l),ai (↑(fN l g k (i+1)).snd:Int)]) (by rw [dC,ht])]))
 ·have ei:i=10:=ah
  subst ei
  have ho:=qG g hk 10
  have hD:Of l g k= {fK (u64 (gW l (fN l g k 10).2 5)) (gW l (dU l (fN l g k 10).2) 9) (fN l g k 10).1 (1+gW l (dU l (dU l (fN l g k 10).2)) ((fN l g k 10).1.length+1)) with peer:=5,box:=stream (u64 (gW l (dU l (dU l (dU l (fN l g k 10).2))) 3)+1) 7 (20+gW l (dU l (dU l (dU l (dU l (fN l g k 10).2)))) 3)}:=rfl
  have hA:O9 l g k=dU l (dU l (dU l (dU l (dU l (fN l g k 10).2)))):=rfl
  generalize fN l g k 10=s at *
  obtain ⟨L,k0⟩:=s
  obtain ⟨o1,o2,o3⟩:=ho
  simp only at o1 o2 o3 hD hA
  have hlen:(ae ax L).length=L.length:=by rw [aE (e:=1) (fun _=>rfl)];omega
  have VK:L.length≤80:=Nat.le_trans o1 (Nat.mul_le_mul (Nat.le_refl _) hm)
  have N1:=dF l k0 5 o3 hl (by decide) (by decide)
  have a1:=dO o3
  generalize gW l k0 5=x1 at *
  generalize dU l k0=k1 at *
  have N2:=dF l k1 9 a1 hl (by decide) (by decide)
  have a2:=dO a1
  generalize gW l k1 9=x2 at *
  generalize dU l k1=k2 at *
  rw [show (L.length:Int)=((ae ax L).length:Int) by omega] at hD
  have N3:=dF l k2 (((ae ax L).length:Int)+1) a2 hl ah ah
  have b3:=lM l k2 (n:=((ae ax L).length:Int)+1) ah
  have a3:=dO a2
  generalize gW l k2 (((ae ax L).length:Int)+1)=x3 at *
  generalize dU l k2=k3 at *
  have N4:=dF l k3 3 a3 hl (by decide) (by decide)
  have a4:=dO a3
  generalize gW l k3 3=x4 at *
  generalize dU l k3=k4 at *
  have N5:=dF l k4 3 a4 hl (by decide) (by decide)
  have b5:=lM l k4 (n:=3) (by decide)
  generalize gW l k4 3=x5 at *
  generalize dU l k4=k5 at *
  have PX:=uh (u64 x1) x2 L (1+x3) ah (fun i hi=>o2 _ (by rw [List.getD_eq_getElem?_getD,List.getElem?_eq_getElem hi];exact List.getElem_mem hi))
  have yG:=GY x4 (20+x5)
  rw [hD,hA]
  generalize fK (u64 x1) x2 L (1+x3)=D at *
  generalize sS (u64 x1) x2 L (1+x3)=SS at *
  generalize rh L (1+x3)=PE at *
  generalize stream (u64 x4+1) 7 (20+x5)=T at *
  have Wi:IntKind.i64.wrap (1+(x3:Int))=1+(x3:Int):=by rw [IntKind.wrap_i64];omega
  have Wh:IntKind.i64.wrap (20+(x5:Int))=20+(x5:Int):=by rw [IntKind.wrap_i64];omega
  refine zE 0<|aS<|aK<|bg<|ak<|zP 3 [yH [(1,{av:=some (ai ↑x1),ln:=[(1000000000000,1000000000000)],ho:=[(1000000000000,Row.mk 1 false true [AV.sl 1 (au l),ai ↑k1])]}),(2,yV (aw (u64 (↑x1:Int)))),(4,{av:=some (ai ↑x2),ln:=[(1000000000000,1000000000000)],ho:=[(1000000000000,Row.mk 1 false true [AV.sl 1 (au l),ai ↑k2])]}),(8,{k:=(ae ax L).length}),(9,yV (ai ((↑(ae ax L).length:Int)+1))),(10,{av:=some (ai ↑x3),ln:=[(1000000000000,1000000000000)],ho:=[(1000000000000,Row.mk 1 false true [AV.sl 1 (au l),ai ↑k3])]}),(11,yV (ai ((1:Int)+(↑x3:Int)))),(12,{av:=some (AV.bk [AV.agg [aw D.bY,aw D.peer,AV.own 1 (ag D.box),AV.own 1 (ae ax D.af),AV.own 1 (aj D.ay),ai D.need,aw D.target],AV.own 1 (ae s7 SS),ai PE]),b:=false})],yH [(1,{av:=some (ai ↑x4),ln:=[(1000000000000,1000000000000)],ho:=[(1000000000000,Row.mk 1 false true [AV.sl 1 (au l),ai ↑k4])]}),(3,{av:=some (ai ↑x5),ln:=[(1000000000000,1000000000000)],ho:=[(1000000000000,Row.mk 1 false true [AV.sl 1 (au l),ai ↑k5])]}),(4,yV (ai ((20:Int)+(↑x5:Int)))),(5,yV (AV.own 1 (ag T)))],{}] [.aa [8,12,4,3,0,1,6,5] [4,8,70,1000000000000,501061,401061,3]] [yI N1,yB ([AV.sl 1 (au l),ai ↑k0].length= [AV.sl 1 (au l),ai ↑k1].length∧0< [AV.sl 1 (au l),ai ↑k1].length) ⟨rfl,Nat.succ_pos _⟩,yI (ba ((↑x1:Int))),yI N2,yB ([AV.sl 1 (au l),ai ↑k1].length= [AV.sl 1 (au l),ai ↑k2].length∧0< [AV.sl 1 (au l),ai ↑k2].length) ⟨rfl,Nat.succ_pos _⟩,yR ((ae ax L).length),yN ((↑(ae ax L).length:Int)+1),yI N3,yB ([AV.sl 1 (au l),ai ↑k2].length= [AV.sl 1 (au l),ai ↑k3].length∧0< [AV.sl 1 (au l),ai ↑k3].length) ⟨rfl,Nat.succ_pos _⟩,yN ((1:Int)+(↑x3:Int)),yI PX,yL 7 7,yI N4,yB ([AV.sl 1 (au l),ai ↑k3].length= [AV.sl 1 (au l),ai ↑k4].length∧0< [AV.sl 1 (au l),ai ↑k4].length) ⟨rfl,Nat.succ_pos _⟩,yI N5,yB ([AV.sl 1 (au l),ai ↑k4].length= [AV.sl 1 (au l),ai ↑k5].length∧0< [AV.sl 1 (au l),ai ↑k5].length) ⟨rfl,Nat.succ_pos _⟩,yN ((20:Int)+(↑x5:Int)),yI yG,yI (aP T),yL 2 7,yL 3 7,yL 7 7]<|zR (zG [.gq 70,.gq 401061,.gq 501061] [yR (Value.int .u64 (wv D.bY)),yR (Value.int .u64 5),yR (ag T),yR (ae ax D.af),yR (aj D.ay),yR (Value.int .i64 D.need),yR (Value.int .u64 (wv D.target)),yR [AV.sl 1 (au l),ai ↑k5]])
end Go.Proofs.YtjgbhhnghedgdaaGreatDoor
