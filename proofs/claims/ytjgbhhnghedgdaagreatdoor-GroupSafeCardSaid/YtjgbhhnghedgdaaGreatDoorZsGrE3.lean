import Derived.Test.YtjgbhhnghedgdaaGreatDoorZsGrC3
set_option linter.all false
namespace Go.Proofs.YtjgbhhnghedgdaaGreatDoor
open Go.RowKit
set_option maxRecDepth 100000
set_option maxHeartbeats 4000000
def Ec (l:List Int) (k:Nat):List (Nat×Row):=[(1000000000000,⟨1,false,true,[.sl 1 (ax l),ai k]⟩)]
def mF (l:List Int) (g:fL) (i:Nat) (s:List (List UInt8)×Nat):Nat->List (List UInt8)×Nat
 | 0=>s
 | m+1=>if (g.al.getD m default).name=(dq i).name then (if (mF l g i s m).1.length=0 then ((mF l g i s m).1++ [(dq i).name],(mF l g i s m).2) else if 0<gC l (mF l g i s m).2 4 then ((mF l g i s m).1++ [(dq i).name],dv l (mF l g i s m).2) else ((mF l g i s m).1,dv l (mF l g i s m).2)) else mF l g i s m
def fv (l:List Int) (g:fL) (k:Nat):Nat->List (List UInt8)×Nat
 | 0=>([],k)
 | i+1=>mF l g i (fv l g k i) g.al.length
structure Jh (l:List Int) (s:List (List UInt8)×Nat) (n:Nat):Prop where
 len:s.1.length≤n
 Qc:∀x∈s.1,x.length≤1000
 at_:s.2≤l.length
theorem ma (i:Nat):(dq i).name.length≤1000:=Nat.le_of_ble_eq_true rfl
theorem CK {l:List Int} (g:fL) (i:Nat) {s:List (List UInt8)×Nat} {n:Nat} (h:Jh l s n):∀m,Jh l (mF l g i s m) (n+m)
 | 0=>h
 | m+1=>by
  obtain ⟨h1,h2,h3⟩:=CK g i h m
  have hs:∀x∈(mF l g i s m).1++ [(dq i).name],x.length≤1000:=fun x hx=>by
   rcases List.mem_append.1 hx with hx|hx
   ·exact h2 x hx
   ·obtain rfl:=List.mem_singleton.1 hx;exact ma i
  unfold mF
  split
  ·split
   ·exact ⟨by simp;omega,hs,h3⟩
   split
   ·exact ⟨by simp;omega,hs,dj h3⟩
   ·exact ⟨by show (mF l g i s m).1.length≤_;omega,h2,dj h3⟩
  ·exact ⟨ah,h2,h3⟩
theorem p7 {l:List Int} (g:fL) {k:Nat} (hk:k≤l.length):∀i,Jh l (fv l g k i) (i*g.al.length)
 | 0=>⟨Nat.zero_le _,(by intro x hx;cases hx),hk⟩
 | i+1=>by
  have:=CK g i (p7 g hk i) g.al.length
  rw [Nat.succ_mul]
  exact this
theorem Gi (a:List (List UInt8)) (x:List UInt8):af ay a++ [dw x]=af ay (a++ [x]):=ja a x
def PQ (l:List Int) (k n:Nat):List Int:=[gC l k 5,gC l (dv l k) 9,1+gC l (dv l (dv l k)) (n+1),gC l (dv l (dv l (dv l k))) 3,20+gC l (dv l (dv l (dv l (dv l k)))) 3]
def Nq (l:List Int) (g:fL) (k:Nat):nC :=
 {fq (u64 ((PQ l (fv l g k 10).2 (fv l g k 10).1.length).getD 0 0)) ((PQ l (fv l g k 10).2 (fv l g k 10).1.length).getD 1 0) (fv l g k 10).1 ((PQ l (fv l g k 10).2 (fv l g k 10).1.length).getD 2 0) with
  peer:=5,box:=stream (u64 ((PQ l (fv l g k 10).2 (fv l g k 10).1.length).getD 3 0)+1) 7 ((PQ l (fv l g k 10).2 (fv l g k 10).1.length).getD 4 0)}
def Ol (l:List Int) (g:fL) (k:Nat):Nat:=dv l (dv l (dv l (dv l (dv l (fv l g k 10).2))))
theorem xW (l:List Int) (k:Nat) (g:fL) (hk:k≤l.length) (hl:l.length≤9223372036854775807) (hm:g.al.length≤8):gb Tryz.prog 38 [.addr 1000000000000 0,.agg (bW g)] (Ec l k) (.agg (bg (Nq l g k))) (Ec l (Ol l g k)):=by
 have nj:(af aP g.al).length=g.al.length*4:=aG (e:=4) (fun _=>rfl) ..
 unfold Ec
 refine mN Tryz.func38 74<|zQ 2 [{},{}] []<|zS<|zq<|zB 0 (zL (fun (i:Nat)=>(⟨[(4,AV.addr 4 0),(3,AV.addr 3 0),(0,AV.addr 1000000000000 0),(1,AV.agg (bW g)),(6,ai i),(5,AV.ref 5)],[(4,⟨1,false,true,[eh,eh,AV.nil,AV.nil,AV.nil,ai 0,eh]⟩),(3,⟨1,false,true,List.map (aQ 4) (List.map (aQ 3) (bW g))⟩),(5,⟨1,true,false,af ay (fv l g k i).1⟩),(1000000000000,⟨1,false,true,[.sl 1 (ax l),ai (fv l g k i).2]⟩)]⟩:AS)) (fun i=>(i≤10)) (fun i=>(10-i)) (0) ?_ (zW [.nil 5 5 1,.aa [4,3,0,1,6,5] [4,3,5,1000000000000]]) ?_)
 ·omega
 intro i hi
 refine zS<|a7.mW 1 [{}] bH (s':=AS.mk [(12,ao (decide ((↑i:Int)<10))),(11,ai ↑i),(4,AV.addr 4 0),(3,AV.addr 3 0),(0,AV.addr 1000000000000 0),(1,AV.agg (bW g)),(6,ai ↑i),(5,AV.ref 5)] [(4,Row.mk 1 false true [eh,eh,AV.nil,AV.nil,AV.nil,ai 0,eh]),(3,Row.mk 1 false true (List.map (aQ 4) (List.map (aQ 3) (bW g)))),(5,Row.mk 1 true false (af ay (fv l g k i).fst)),(1000000000000,Row.mk 1 false true [AV.sl 1 (ax l),ai (↑(fv l g k i).snd:Int)])]) (C:=[]) bH trivial (zD 12 ((↑i:Int)<10) (fun q=>?_) (fun q=>?_))
 ·have dM:i<10:=ah
  have yj:=fy i dM
  have ho:=p7 g hk i
  have va:i*g.al.length≤80:=Nat.mul_le_mul hi hm
  have dI:fv l g k (i+1)=mF l g i (fv l g k i) g.al.length:=rfl
  have Us:=fun m=>CK g i ho m
  generalize fv l g k i=s at *
  refine a8<|zS<|zB 1<|zq<|zB 2 (zL (fun (m:Nat)=>(⟨[(12,ao (decide ((↑i:Int)<10))),(4,AV.addr 4 0),(3,AV.addr 3 0),(0,AV.addr 1000000000000 0),(1,AV.agg (bW g)),(6,ai ↑i),(7,ai m),(5,AV.ref 5)],[(4,⟨1,false,true,[eh,eh,AV.nil,AV.nil,AV.nil,ai 0,eh]⟩),(5,⟨1,true,false,af ay (mF l g i s m).1⟩),(1000000000000,⟨1,false,true,[.sl 1 (ax l),ai (mF l g i s m).2]⟩),(3,⟨1,false,true,bW g⟩)]⟩:AS)) (fun m=>(m≤g.al.length)) (fun m=>(g.al.length-m)) (0) ?_ (zW [.aa [12,4,3,0,1,6,7,5] [4,5,1000000000000,3]]) ?_)
  ·omega
  intro m DS
  obtain ⟨o1,o2,o3⟩:=Us m
  have pG:mF l g i s (m+1)=if (g.al.getD m default).name=(dq i).name then (if (mF l g i s m).1.length=0 then ((mF l g i s m).1++ [(dq i).name],(mF l g i s m).2) else if 0<gC l (mF l g i s m).2 4 then ((mF l g i s m).1++ [(dq i).name],dv l (mF l g i s m).2) else ((mF l g i s m).1,dv l (mF l g i s m).2)) else mF l g i s m:=rfl
  have hlen:(af ay (mF l g i s m).1).length=(mF l g i s m).1.length:=by rw [aG (e:=1) (fun _=>rfl)];omega
  generalize ht:mF l g i s m=t at *
  refine zS<|a7.rE 1 [{hs:=[(3,{k:=g.al.length})]}] [.aa [19,12,4,3,0,1,6,7,5] [4,5,1000000000000,3]] bH (s':=AS.mk [(19,ao (decide ((↑m:Int)<(↑g.al.length:Int)))),(12,ao (decide ((↑i:Int)<10))),(4,AV.addr 4 0),(3,AV.addr 3 0),(0,AV.addr 1000000000000 0),(1,AV.agg (bW g)),(6,ai ↑i),(7,ai ↑m),(5,AV.ref 5)] [(4,Row.mk 1 false true [eh,eh,AV.nil,AV.nil,AV.nil,ai 0,eh]),(5,Row.mk 1 true false (af ay t.fst)),(1000000000000,Row.mk 1 false true [AV.sl 1 (ax l),ai (↑t.snd:Int)]),(3,Row.mk 1 false true (bW g))]) (C:=[(af aP g.al).length=g.al.length*4]) bH ⟨nj,trivial⟩ (zD 19 ((↑m:Int)<(↑g.al.length:Int)) (fun q2=>?_) (fun q2=>?_))
  ·have RB:m<g.al.length:=ah
   have ix:=l_ RB
   by_cases cn:(g.al.getD m default).name=(dq i).name
   case neg =>
    rw [if_neg cn] at pG
    refine a8<|zS<|zB 3<|zP 1 [{hs:=[(3,{k:=m}),(5,yV (dw (g.al.getD m default).name)),(7,yV (AV.agg (aP (dq i)))),(9,yV (ao ((g.al.getD m default).name == (dq i).name))),(11,{g:=false}),(12,{g:=false}),(13,{g:=false}),(14,{g:=false}),(18,{g:=false}),(19,{b:=false})],T:=9}] [.aa [41,29,19,12,4,3,0,1,6,7,5] [4,5,1000000000000,3]] ([yR (↑m:Int),yO (m*4<(af aP g.al).length),yA aP g.al m 0,yI yj,yI (fg ((g.al.getD m default).name) ((dq i).name))]++yM 6 (yS (((g.al.getD m default).name == (dq i).name)=false)))<|zF 41<|zK<|aM<|ak<|zX (yH [(1,yV (ai ((↑m:Int)+1)))]) [yN ((↑m:Int)+1)] (aI (m+1) (by assumption) ah (e_ [.aa [12,4,3,0,1,6,7,5] [4,5,1000000000000,3]] [] [5,1000000000000] [yB (af ay t.fst=af ay (mF l g i s (m+1)).fst) (by rw [pG]),yB ([AV.sl 1 (ax l),ai (↑t.snd:Int)]= [AV.sl 1 (ax l),ai (↑(mF l g i s (m+1)).snd:Int)]) (by rw [pG])]))
   rw [if_pos cn] at pG
   have ss:=Gi t.1 (dq i).name
   by_cases c0:t.1.length=0
   ·rw [if_pos c0] at pG
    refine a8<|zS<|zB 3<|zP 1 [{hs:=[(3,{k:=m}),(5,yV (dw (g.al.getD m default).name)),(7,yV (AV.agg (aP (dq i)))),(9,yV (ao ((g.al.getD m default).name == (dq i).name))),(12,{k:=(af ay t.fst).length})],T:=9}] [.aa [41,29,19,12,4,3,0,1,6,7,5] [4,5,1000000000000,3]] ([yR (↑m:Int),yO (m*4<(af aP g.al).length),yA aP g.al m 0,yI yj,yI (fg ((g.al.getD m default).name) ((dq i).name))]++yM 2 (yS (((g.al.getD m default).name == (dq i).name)=true))++ [yR ((af ay t.fst).length)]++yM 2 (yS (((g.al.getD m default).name == (dq i).name)=true))++yM 3 (yB (((↑(af ay t.fst).length:Int) == (0:Int))=true) fX)++ [yS (((g.al.getD m default).name == (dq i).name)=true),yS (((↑(af ay t.fst).length:Int) == (0:Int))=true),yS (((g.al.getD m default).name == (dq i).name)=true)])<|zT 41<|zX (yH [(2,yV (AV.agg (aP (dq i))))]) [yI yj,yO (((af ay t.fst).length+1)*16≤140737488355328)]<|aM<|ak<|zX (yH [(1,yV (ai ((↑m:Int)+1)))]) [yN ((↑m:Int)+1)] (aI (m+1) (by assumption) ah (e_ [.vS 47 5,.aa [12,4,3,0,1,6,7,5] [4,5,1000000000000,3]] [] [5,1000000000000] [yB (af ay t.fst++ [dw (dq i).name]=af ay (mF l g i s (m+1)).fst) (by rw [pG];exact ss),yB ([AV.sl 1 (ax l),ai (↑t.snd:Int)]= [AV.sl 1 (ax l),ai (↑(mF l g i s (m+1)).snd:Int)]) (by rw [pG])]))
   rw [if_neg c0] at pG
   have N1:=cY l t.2 4 o3 hl (by decide) (by decide)
   by_cases cd:0<gC l t.2 4
   ·rw [if_pos cd] at pG
    refine a8<|zS<|zB 3<|zP 1 [{hs:=[(3,{k:=m}),(5,yV (dw (g.al.getD m default).name)),(7,yV (AV.agg (aP (dq i)))),(9,yV (ao ((g.al.getD m default).name == (dq i).name))),(12,{k:=(af ay t.fst).length}),(15,{g:=false}),(16,{av:=some (ai (↑(gC l t.snd (4:Int)):Int)),g:=false,ln:=[(1000000000000,1000000000000)],ho:=[(1000000000000,Row.mk 1 false true [AV.sl 1 (ax l),ai (↑(dv l t.snd):Int)])]}),(17,{g:=false}),(18,{b:=false})],T:=9}] [.aa [41,29,19,12,4,3,0,1,6,7,5] [1000000000000,4,5,3]] ([yR (↑m:Int),yO (m*4<(af aP g.al).length),yA aP g.al m 0,yI yj,yI (fg ((g.al.getD m default).name) ((dq i).name))]++yM 2 (yS (((g.al.getD m default).name == (dq i).name)=true))++ [yR ((af ay t.fst).length)]++yM 2 (yS (((g.al.getD m default).name == (dq i).name)=true))++yM 2 (yB (((↑(af ay t.fst).length:Int) == (0:Int))=false) bR)++ [yI N1,yB ([AV.sl 1 (ax l),ai (↑t.snd:Int)].length= [AV.sl 1 (ax l),ai (↑(dv l t.snd):Int)].length∧0< [AV.sl 1 (ax l),ai (↑(dv l t.snd):Int)].length) ⟨rfl,Nat.succ_pos _⟩,yB (((↑(af ay t.fst).length:Int) == (0:Int))=false) bR,yS (((g.al.getD m default).name == (dq i).name)=true),yS (((↑(af ay t.fst).length:Int) == (0:Int))=false),yS (((g.al.getD m default).name == (dq i).name)=true)])<|jO 41 ((↑(gC l t.snd (4:Int)):Int)>0)<|zX (yH [(2,yV (AV.agg (aP (dq i))))]) [yI yj,yO (((af ay t.fst).length+1)*16≤140737488355328)]<|aM<|ak<|zX (yH [(1,yV (ai ((↑m:Int)+1)))]) [yN ((↑m:Int)+1)] (aI (m+1) (by assumption) ah (e_ [.vS 47 5,.aa [12,4,3,0,1,6,7,5] [4,5,1000000000000,3]] [] [5,1000000000000] [yB (af ay t.fst++ [dw (dq i).name]=af ay (mF l g i s (m+1)).fst) (by rw [pG];exact ss),yB ([AV.sl 1 (ax l),ai (↑(dv l t.snd):Int)]= [AV.sl 1 (ax l),ai (↑(mF l g i s (m+1)).snd:Int)]) (by rw [pG])]))
   ·rw [if_neg cd] at pG
    refine a8<|zS<|zB 3<|zP 1 [{hs:=[(3,{k:=m}),(5,yV (dw (g.al.getD m default).name)),(7,yV (AV.agg (aP (dq i)))),(9,yV (ao ((g.al.getD m default).name == (dq i).name))),(12,{k:=(af ay t.fst).length}),(15,{g:=false}),(16,{av:=some (ai (↑(gC l t.snd (4:Int)):Int)),g:=false,ln:=[(1000000000000,1000000000000)],ho:=[(1000000000000,Row.mk 1 false true [AV.sl 1 (ax l),ai (↑(dv l t.snd):Int)])]}),(17,{g:=false}),(18,{b:=false})],T:=9}] [.aa [41,29,19,12,4,3,0,1,6,7,5] [1000000000000,4,5,3]] ([yR (↑m:Int),yO (m*4<(af aP g.al).length),yA aP g.al m 0,yI yj,yI (fg ((g.al.getD m default).name) ((dq i).name))]++yM 2 (yS (((g.al.getD m default).name == (dq i).name)=true))++ [yR ((af ay t.fst).length)]++yM 2 (yS (((g.al.getD m default).name == (dq i).name)=true))++yM 2 (yB (((↑(af ay t.fst).length:Int) == (0:Int))=false) bR)++ [yI N1,yB ([AV.sl 1 (ax l),ai (↑t.snd:Int)].length= [AV.sl 1 (ax l),ai (↑(dv l t.snd):Int)].length∧0< [AV.sl 1 (ax l),ai (↑(dv l t.snd):Int)].length) ⟨rfl,Nat.succ_pos _⟩,yB (((↑(af ay t.fst).length:Int) == (0:Int))=false) bR,yS (((g.al.getD m default).name == (dq i).name)=true),yS (((↑(af ay t.fst).length:Int) == (0:Int))=false),yS (((g.al.getD m default).name == (dq i).name)=true)])<|dK 41 ((↑(gC l t.snd (4:Int)):Int)>0)<|zK<|aM<|ak<|zX (yH [(1,yV (ai ((↑m:Int)+1)))]) [yN ((↑m:Int)+1)] (aI (m+1) (by assumption) ah (e_ [.aa [12,4,3,0,1,6,7,5] [4,5,1000000000000,3]] [] [5,1000000000000] [yB (af ay t.fst=af ay (mF l g i s (m+1)).fst) (by rw [pG]),yB ([AV.sl 1 (ax l),ai (↑(dv l t.snd):Int)]= [AV.sl 1 (ax l),ai (↑(mF l g i s (m+1)).snd:Int)]) (by rw [pG])]))
  ·have em:m=g.al.length:=ah
   subst em
   refine zE 2<|aY<|aN<|bm<|aM<|ak<|zX (yH [(1,yV (ai ((↑i:Int)+1)))]) [yN ((↑i:Int)+1)] (aI (i+1) (by assumption) ah (e_ [.aa [4,3,0,1,6,5] [4,3,5,1000000000000]] [] [5,1000000000000] [yB (af ay t.fst=af ay (fv l g k (i+1)).fst) (by rw [dI,ht]),yB ([AV.sl 1 (ax l),ai (↑t.snd:Int)]= [AV.sl 1 (ax l),ai (↑(fv l g k (i+1)).snd:Int)]) (by rw [dI,ht])]))
 ·have ei:i=10:=ah
  subst ei
  have ho:=p7 g hk 10
  have hD:Nq l g k= {fq (u64 (gC l (fv l g k 10).2 5)) (gC l (dv l (fv l g k 10).2) 9) (fv l g k 10).1 (1+gC l (dv l (dv l (fv l g k 10).2)) ((fv l g k 10).1.length+1)) with peer:=5,box:=stream (u64 (gC l (dv l (dv l (dv l (fv l g k 10).2))) 3)+1) 7 (20+gC l (dv l (dv l (dv l (dv l (fv l g k 10).2)))) 3)}:=rfl
  have hA:Ol l g k=dv l (dv l (dv l (dv l (dv l (fv l g k 10).2)))):=rfl
  generalize fv l g k 10=s at *
  obtain ⟨L,k0⟩:=s
  obtain ⟨o1,o2,o3⟩:=ho
  simp only at o1 o2 o3 hD hA
  have hlen:(af ay L).length=L.length:=by rw [aG (e:=1) (fun _=>rfl)];omega
  have Va:L.length≤80:=Nat.le_trans o1 (Nat.mul_le_mul (Nat.le_refl _) hm)
  have N1:=cY l k0 5 o3 hl (by decide) (by decide)
  have a1:=dj o3
  generalize gC l k0 5=x1 at *
  generalize dv l k0=k1 at *
  have N2:=cY l k1 9 a1 hl (by decide) (by decide)
  have a2:=dj a1
  generalize gC l k1 9=x2 at *
  generalize dv l k1=k2 at *
  rw [show (L.length:Int)=((af ay L).length:Int) by omega] at hD
  have N3:=cY l k2 (((af ay L).length:Int)+1) a2 hl ah ah
  have b3:=ll l k2 (n:=((af ay L).length:Int)+1) ah
  have a3:=dj a2
  generalize gC l k2 (((af ay L).length:Int)+1)=x3 at *
  generalize dv l k2=k3 at *
  have N4:=cY l k3 3 a3 hl (by decide) (by decide)
  have a4:=dj a3
  generalize gC l k3 3=x4 at *
  generalize dv l k3=k4 at *
  have N5:=cY l k4 3 a4 hl (by decide) (by decide)
  have b5:=ll l k4 (n:=3) (by decide)
  generalize gC l k4 3=x5 at *
  generalize dv l k4=k5 at *
  have Pg:=tF (u64 x1) x2 L (1+x3) ah (fun i hi=>o2 _ (by rw [List.getD_eq_getElem?_getD,List.getElem?_eq_getElem hi];exact List.getElem_mem hi))
  have xw:=FG x4 (20+x5)
  rw [hD,hA]
  generalize fq (u64 x1) x2 L (1+x3)=D at *
  generalize sd (u64 x1) x2 L (1+x3)=SS at *
  generalize qB L (1+x3)=PE at *
  generalize stream (u64 x4+1) 7 (20+x5)=T at *
  have VK:IntKind.i64.wrap (1+(x3:Int))=1+(x3:Int):=by rw [IntKind.wrap_i64];omega
  have VJ:IntKind.i64.wrap (20+(x5:Int))=20+(x5:Int):=by rw [IntKind.wrap_i64];omega
  refine zE 0<|aY<|aN<|bm<|ak<|zP 3 [yH [(1,{av:=some (ai ↑x1),ln:=[(1000000000000,1000000000000)],ho:=[(1000000000000,Row.mk 1 false true [AV.sl 1 (ax l),ai ↑k1])]}),(2,yV (aw (u64 (↑x1:Int)))),(4,{av:=some (ai ↑x2),ln:=[(1000000000000,1000000000000)],ho:=[(1000000000000,Row.mk 1 false true [AV.sl 1 (ax l),ai ↑k2])]}),(8,{k:=(af ay L).length}),(9,yV (ai ((↑(af ay L).length:Int)+1))),(10,{av:=some (ai ↑x3),ln:=[(1000000000000,1000000000000)],ho:=[(1000000000000,Row.mk 1 false true [AV.sl 1 (ax l),ai ↑k3])]}),(11,yV (ai ((1:Int)+(↑x3:Int)))),(12,{av:=some (AV.br [AV.agg [aw D.cm,aw D.peer,AV.own 1 (ag D.box),AV.own 1 (af ay D.ae),AV.own 1 (aj D.au),ai D.need,aw D.target],AV.own 1 (af sm SS),ai PE]),b:=false})],yH [(1,{av:=some (ai ↑x4),ln:=[(1000000000000,1000000000000)],ho:=[(1000000000000,Row.mk 1 false true [AV.sl 1 (ax l),ai ↑k4])]}),(3,{av:=some (ai ↑x5),ln:=[(1000000000000,1000000000000)],ho:=[(1000000000000,Row.mk 1 false true [AV.sl 1 (ax l),ai ↑k5])]}),(4,yV (ai ((20:Int)+(↑x5:Int)))),(5,yV (AV.own 1 (ag T)))],{}] [.aa [8,12,4,3,0,1,6,5] [4,8,70,1000000000000,501061,401061,3]] [yI N1,yB ([AV.sl 1 (ax l),ai ↑k0].length= [AV.sl 1 (ax l),ai ↑k1].length∧0< [AV.sl 1 (ax l),ai ↑k1].length) ⟨rfl,Nat.succ_pos _⟩,yI (a6 ((↑x1:Int))),yI N2,yB ([AV.sl 1 (ax l),ai ↑k1].length= [AV.sl 1 (ax l),ai ↑k2].length∧0< [AV.sl 1 (ax l),ai ↑k2].length) ⟨rfl,Nat.succ_pos _⟩,yR ((af ay L).length),yN ((↑(af ay L).length:Int)+1),yI N3,yB ([AV.sl 1 (ax l),ai ↑k2].length= [AV.sl 1 (ax l),ai ↑k3].length∧0< [AV.sl 1 (ax l),ai ↑k3].length) ⟨rfl,Nat.succ_pos _⟩,yN ((1:Int)+(↑x3:Int)),yI Pg,yL 7 7,yI N4,yB ([AV.sl 1 (ax l),ai ↑k3].length= [AV.sl 1 (ax l),ai ↑k4].length∧0< [AV.sl 1 (ax l),ai ↑k4].length) ⟨rfl,Nat.succ_pos _⟩,yI N5,yB ([AV.sl 1 (ax l),ai ↑k4].length= [AV.sl 1 (ax l),ai ↑k5].length∧0< [AV.sl 1 (ax l),ai ↑k5].length) ⟨rfl,Nat.succ_pos _⟩,yN ((20:Int)+(↑x5:Int)),yI xw,yI (aV T),yL 2 7,yL 3 7,yL 7 7]<|zR (zG [.iR 70,.iR 401061,.iR 501061] [yR (Value.int .u64 (wv D.cm)),yR (Value.int .u64 5),yR (ag T),yR (af ay D.ae),yR (aj D.au),yR (Value.int .i64 D.need),yR (Value.int .u64 (wv D.target)),yR [AV.sl 1 (ax l),ai ↑k5]])
end Go.Proofs.YtjgbhhnghedgdaaGreatDoor
