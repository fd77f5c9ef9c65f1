import Derived.Test.YtjgbhhnghedgdaaGreatDoorZfGrC3
set_option linter.all false
namespace Go.Proofs.YtjgbhhnghedgdaaGreatDoor
open Go.RowKit
set_option maxRecDepth 100000
set_option maxHeartbeats 4000000
def AL (l:List Int) (k:Nat):List (Nat×Row):=[(1000000000000,⟨1,false,true,[.sl 1 (ax l),ai k]⟩)]
def nq (l:List Int) (g:fG) (i:Nat) (s:List (List UInt8)×Nat):Nat->List (List UInt8)×Nat
 | 0=>s
 | m+1=>if (g.aq.getD m default).name=(dv i).name then (if (nq l g i s m).1.length=0 then ((nq l g i s m).1++ [(dv i).name],(nq l g i s m).2) else if 0<ik l (nq l g i s m).2 4 then ((nq l g i s m).1++ [(dv i).name],dW l (nq l g i s m).2) else ((nq l g i s m).1,dW l (nq l g i s m).2)) else nq l g i s m
def f_ (l:List Int) (g:fG) (k:Nat):Nat->List (List UInt8)×Nat
 | 0=>([],k)
 | i+1=>nq l g i (f_ l g k i) g.aq.length
structure K_ (l:List Int) (s:List (List UInt8)×Nat) (n:Nat):Prop where
 len:s.1.length≤n
 Sd:∀x∈s.1,x.length≤1000
 at_:s.2≤l.length
theorem mT (i:Nat):(dv i).name.length≤1000:=Nat.le_of_ble_eq_true rfl
theorem EH {l:List Int} (g:fG) (i:Nat) {s:List (List UInt8)×Nat} {n:Nat} (h:K_ l s n):∀m,K_ l (nq l g i s m) (n+m)
 | 0=>h
 | m+1=>by
  obtain ⟨h1,h2,h3⟩:=EH g i h m
  have hs:∀x∈(nq l g i s m).1++ [(dv i).name],x.length≤1000:=fun x hx=>by
   rcases List.mem_append.1 hx with hx|hx
   ·exact h2 x hx
   ·obtain rfl:=List.mem_singleton.1 hx;exact mT i
  unfold nq
  split
  ·split
   ·exact ⟨by simp;omega,hs,h3⟩
   split
   ·exact ⟨by simp;omega,hs,dU h3⟩
   ·exact ⟨by show (nq l g i s m).1.length≤_;omega,h2,dU h3⟩
  ·exact ⟨ag,h2,h3⟩
theorem ra {l:List Int} (g:fG) {k:Nat} (hk:k≤l.length):∀i,K_ l (f_ l g k i) (i*g.aq.length)
 | 0=>⟨Nat.zero_le _,(by intro x hx;cases hx),hk⟩
 | i+1=>by
  have:=EH g i (ra g hk i) g.aq.length
  rw [Nat.succ_mul]
  exact this
theorem Ik (a:List (List UInt8)) (x:List UInt8):ae au a++ [di x]=ae au (a++ [x]):=fS a x
def RR (l:List Int) (k n:Nat):List Int:=[ik l k 5,ik l (dW l k) 9,1+ik l (dW l (dW l k)) (n+1),ik l (dW l (dW l (dW l k))) 3,20+ik l (dW l (dW l (dW l (dW l k)))) 3]
def Pr (l:List Int) (g:fG) (k:Nat):oD :=
 {fX (u64 ((RR l (f_ l g k 10).2 (f_ l g k 10).1.length).getD 0 0)) ((RR l (f_ l g k 10).2 (f_ l g k 10).1.length).getD 1 0) (f_ l g k 10).1 ((RR l (f_ l g k 10).2 (f_ l g k 10).1.length).getD 2 0) with
  peer:=5,box:=stream (u64 ((RR l (f_ l g k 10).2 (f_ l g k 10).1.length).getD 3 0)+1) 7 ((RR l (f_ l g k 10).2 (f_ l g k 10).1.length).getD 4 0)}
def Qm (l:List Int) (g:fG) (k:Nat):Nat:=dW l (dW l (dW l (dW l (dW l (f_ l g k 10).2))))
theorem At (l:List Int) (k:Nat) (g:fG) (hk:k≤l.length) (hl:l.length≤9223372036854775807) (hm:g.aq.length≤8):gw Tryz.prog 38 [.addr 1000000000000 0,.agg (de g)] (AL l k) (.agg (bk (Pr l g k))) (AL l (Qm l g k)):=by
 have nF:(ae aN g.aq).length=g.aq.length*4:=aA (e:=4) (fun _=>rfl) ..
 unfold AL
 refine nw Tryz.func38 74<|zQ 2 [{},{}] []<|zS<|zq<|zB 0 (zL (fun (i:Nat)=>(⟨[(4,AV.addr 4 0),(3,AV.addr 3 0),(0,AV.addr 1000000000000 0),(1,AV.agg (de g)),(6,ai i),(5,AV.ref 5)],[(4,⟨1,false,true,[dY,dY,AV.nil,AV.nil,AV.nil,ai 0,dY]⟩),(3,⟨1,false,true,List.map (aH 4) (List.map (aH 3) (de g))⟩),(5,⟨1,true,false,ae au (f_ l g k i).1⟩),(1000000000000,⟨1,false,true,[.sl 1 (ax l),ai (f_ l g k i).2]⟩)]⟩:AS)) (fun i=>(i≤10)) (fun i=>(10-i)) (0) ?_ (zW [.nil 5 5 1,.aa [4,3,0,1,6,5] [4,3,5,1000000000000]]) ?_)
 ·omega
 intro i hi
 refine zS<|bf.nQ 1 [{}] bC (s':=AS.mk [(12,ao (decide ((↑i:Int)<10))),(11,ai ↑i),(4,AV.addr 4 0),(3,AV.addr 3 0),(0,AV.addr 1000000000000 0),(1,AV.agg (de g)),(6,ai ↑i),(5,AV.ref 5)] [(4,Row.mk 1 false true [dY,dY,AV.nil,AV.nil,AV.nil,ai 0,dY]),(3,Row.mk 1 false true (List.map (aH 4) (List.map (aH 3) (de g)))),(5,Row.mk 1 true false (ae au (f_ l g k i).fst)),(1000000000000,Row.mk 1 false true [AV.sl 1 (ax l),ai (↑(f_ l g k i).snd:Int)])]) (C:=[]) bC trivial (zD 12 ((↑i:Int)<10) (fun q=>?_) (fun q=>?_))
 ·have dc:i<10:=ag
  have qf:=fC i dc
  have ho:=ra g hk i
  have sf:i*g.aq.length≤80:=Nat.mul_le_mul hi hm
  have dC:f_ l g k (i+1)=nq l g i (f_ l g k i) g.aq.length:=rfl
  have Wj:=fun m=>EH g i ho m
  generalize f_ l g k i=s at *
  refine a6<|zS<|zB 1<|zq<|zB 2 (zL (fun (m:Nat)=>(⟨[(12,ao (decide ((↑i:Int)<10))),(4,AV.addr 4 0),(3,AV.addr 3 0),(0,AV.addr 1000000000000 0),(1,AV.agg (de g)),(6,ai ↑i),(7,ai m),(5,AV.ref 5)],[(4,⟨1,false,true,[dY,dY,AV.nil,AV.nil,AV.nil,ai 0,dY]⟩),(5,⟨1,true,false,ae au (nq l g i s m).1⟩),(1000000000000,⟨1,false,true,[.sl 1 (ax l),ai (nq l g i s m).2]⟩),(3,⟨1,false,true,de g⟩)]⟩:AS)) (fun m=>(m≤g.aq.length)) (fun m=>(g.aq.length-m)) (0) ?_ (zW [.aa [12,4,3,0,1,6,7,5] [4,5,1000000000000,3]]) ?_)
  ·omega
  intro m JN
  obtain ⟨o1,o2,o3⟩:=Wj m
  have qN:nq l g i s (m+1)=if (g.aq.getD m default).name=(dv i).name then (if (nq l g i s m).1.length=0 then ((nq l g i s m).1++ [(dv i).name],(nq l g i s m).2) else if 0<ik l (nq l g i s m).2 4 then ((nq l g i s m).1++ [(dv i).name],dW l (nq l g i s m).2) else ((nq l g i s m).1,dW l (nq l g i s m).2)) else nq l g i s m:=rfl
  have hlen:(ae au (nq l g i s m).1).length=(nq l g i s m).1.length:=by rw [aA (e:=1) (fun _=>rfl)];omega
  generalize ht:nq l g i s m=t at *
  refine zS<|bf.pe 1 [{hs:=[(3,{k:=g.aq.length})]}] [.aa [19,12,4,3,0,1,6,7,5] [4,5,1000000000000,3]] bC (s':=AS.mk [(19,ao (decide ((↑m:Int)<(↑g.aq.length:Int)))),(12,ao (decide ((↑i:Int)<10))),(4,AV.addr 4 0),(3,AV.addr 3 0),(0,AV.addr 1000000000000 0),(1,AV.agg (de g)),(6,ai ↑i),(7,ai ↑m),(5,AV.ref 5)] [(4,Row.mk 1 false true [dY,dY,AV.nil,AV.nil,AV.nil,ai 0,dY]),(5,Row.mk 1 true false (ae au t.fst)),(1000000000000,Row.mk 1 false true [AV.sl 1 (ax l),ai (↑t.snd:Int)]),(3,Row.mk 1 false true (de g))]) (C:=[(ae aN g.aq).length=g.aq.length*4]) bC ⟨nF,trivial⟩ (zD 19 ((↑m:Int)<(↑g.aq.length:Int)) (fun q2=>?_) (fun q2=>?_))
  ·have Tz:m<g.aq.length:=ag
   have ic:=oJ Tz
   by_cases cn:(g.aq.getD m default).name=(dv i).name
   case neg =>
    rw [if_neg cn] at qN
    refine a6<|zS<|zB 3<|zP 1 [{hs:=[(3,{k:=m}),(5,yV (di (g.aq.getD m default).name)),(7,yC qf),(9,yV (ao ((g.aq.getD m default).name == (dv i).name))),(11,{g:=false}),(12,{g:=false}),(13,{g:=false}),(14,{g:=false}),(18,{g:=false}),(19,{b:=false})],T:=9}] [.aa [41,29,19,12,4,3,0,1,6,7,5] [4,5,1000000000000,3]] ([yR (↑m:Int),yO (m*4<(ae aN g.aq).length),yA aN g.aq m 0,yI qf,yI (eY ((g.aq.getD m default).name) ((dv i).name))]++yM 6 (yS (((g.aq.getD m default).name == (dv i).name)=false)))<|zF 41<|zK<|aK<|al<|zX (yH [(1,yV (ai ((↑m:Int)+1)))]) [yN ((↑m:Int)+1)] (aF (m+1) (by assumption) ag (eX [.aa [12,4,3,0,1,6,7,5] [4,5,1000000000000,3]] [] [5,1000000000000] [yB (ae au t.fst=ae au (nq l g i s (m+1)).fst) (by rw [qN]),yB ([AV.sl 1 (ax l),ai (↑t.snd:Int)]= [AV.sl 1 (ax l),ai (↑(nq l g i s (m+1)).snd:Int)]) (by rw [qN])]))
   rw [if_pos cn] at qN
   have ss:=Ik t.1 (dv i).name
   by_cases c0:t.1.length=0
   ·rw [if_pos c0] at qN
    refine a6<|zS<|zB 3<|zP 1 [{hs:=[(3,{k:=m}),(5,yV (di (g.aq.getD m default).name)),(7,yC qf),(9,yV (ao ((g.aq.getD m default).name == (dv i).name))),(12,{k:=(ae au t.fst).length})],T:=9}] [.aa [41,29,19,12,4,3,0,1,6,7,5] [4,5,1000000000000,3]] ([yR (↑m:Int),yO (m*4<(ae aN g.aq).length),yA aN g.aq m 0,yI qf,yI (eY ((g.aq.getD m default).name) ((dv i).name))]++yM 2 (yS (((g.aq.getD m default).name == (dv i).name)=true))++ [yR ((ae au t.fst).length)]++yM 2 (yS (((g.aq.getD m default).name == (dv i).name)=true))++yM 3 (yB (((↑(ae au t.fst).length:Int) == (0:Int))=true) fh)++ [yS (((g.aq.getD m default).name == (dv i).name)=true),yS (((↑(ae au t.fst).length:Int) == (0:Int))=true),yS (((g.aq.getD m default).name == (dv i).name)=true)])<|zT 41<|zX (yH [(2,yC qf)]) [yI qf,yO (((ae au t.fst).length+1)*16≤140737488355328)]<|aK<|al<|zX (yH [(1,yV (ai ((↑m:Int)+1)))]) [yN ((↑m:Int)+1)] (aF (m+1) (by assumption) ag (eX [.wU 47 5,.aa [12,4,3,0,1,6,7,5] [4,5,1000000000000,3]] [] [5,1000000000000] [yB (ae au t.fst++ [di (dv i).name]=ae au (nq l g i s (m+1)).fst) (by rw [qN];exact ss),yB ([AV.sl 1 (ax l),ai (↑t.snd:Int)]= [AV.sl 1 (ax l),ai (↑(nq l g i s (m+1)).snd:Int)]) (by rw [qN])]))
   rw [if_neg c0] at qN
   have N1:=dL l t.2 4 o3 hl (by decide) (by decide)
   by_cases cd:0<ik l t.2 4
   ·rw [if_pos cd] at qN
    refine a6<|zS<|zB 3<|zP 1 [{hs:=[(3,{k:=m}),(5,yV (di (g.aq.getD m default).name)),(7,yC qf),(9,yV (ao ((g.aq.getD m default).name == (dv i).name))),(12,{k:=(ae au t.fst).length}),(15,{g:=false}),(16,{av:=some (ai (↑(ik l t.snd (4:Int)):Int)),g:=false,ln:=[(1000000000000,1000000000000)],ho:=[(1000000000000,Row.mk 1 false true [AV.sl 1 (ax l),ai (↑(dW l t.snd):Int)])]}),(17,{g:=false}),(18,{b:=false})],T:=9}] [.aa [41,29,19,12,4,3,0,1,6,7,5] [1000000000000,4,5,3]] ([yR (↑m:Int),yO (m*4<(ae aN g.aq).length),yA aN g.aq m 0,yI qf,yI (eY ((g.aq.getD m default).name) ((dv i).name))]++yM 2 (yS (((g.aq.getD m default).name == (dv i).name)=true))++ [yR ((ae au t.fst).length)]++yM 2 (yS (((g.aq.getD m default).name == (dv i).name)=true))++yM 2 (yB (((↑(ae au t.fst).length:Int) == (0:Int))=false) bx)++ [yI N1,yB ([AV.sl 1 (ax l),ai (↑t.snd:Int)].length= [AV.sl 1 (ax l),ai (↑(dW l t.snd):Int)].length∧0< [AV.sl 1 (ax l),ai (↑(dW l t.snd):Int)].length) ⟨rfl,Nat.succ_pos _⟩,yB (((↑(ae au t.fst).length:Int) == (0:Int))=false) bx,yS (((g.aq.getD m default).name == (dv i).name)=true),yS (((↑(ae au t.fst).length:Int) == (0:Int))=false),yS (((g.aq.getD m default).name == (dv i).name)=true)])<|gX 41 ((↑(ik l t.snd (4:Int)):Int)>0)<|zX (yH [(2,yC qf)]) [yI qf,yO (((ae au t.fst).length+1)*16≤140737488355328)]<|aK<|al<|zX (yH [(1,yV (ai ((↑m:Int)+1)))]) [yN ((↑m:Int)+1)] (aF (m+1) (by assumption) ag (eX [.wU 47 5,.aa [12,4,3,0,1,6,7,5] [4,5,1000000000000,3]] [] [5,1000000000000] [yB (ae au t.fst++ [di (dv i).name]=ae au (nq l g i s (m+1)).fst) (by rw [qN];exact ss),yB ([AV.sl 1 (ax l),ai (↑(dW l t.snd):Int)]= [AV.sl 1 (ax l),ai (↑(nq l g i s (m+1)).snd:Int)]) (by rw [qN])]))
   ·rw [if_neg cd] at qN
    refine a6<|zS<|zB 3<|zP 1 [{hs:=[(3,{k:=m}),(5,yV (di (g.aq.getD m default).name)),(7,yC qf),(9,yV (ao ((g.aq.getD m default).name == (dv i).name))),(12,{k:=(ae au t.fst).length}),(15,{g:=false}),(16,{av:=some (ai (↑(ik l t.snd (4:Int)):Int)),g:=false,ln:=[(1000000000000,1000000000000)],ho:=[(1000000000000,Row.mk 1 false true [AV.sl 1 (ax l),ai (↑(dW l t.snd):Int)])]}),(17,{g:=false}),(18,{b:=false})],T:=9}] [.aa [41,29,19,12,4,3,0,1,6,7,5] [1000000000000,4,5,3]] ([yR (↑m:Int),yO (m*4<(ae aN g.aq).length),yA aN g.aq m 0,yI qf,yI (eY ((g.aq.getD m default).name) ((dv i).name))]++yM 2 (yS (((g.aq.getD m default).name == (dv i).name)=true))++ [yR ((ae au t.fst).length)]++yM 2 (yS (((g.aq.getD m default).name == (dv i).name)=true))++yM 2 (yB (((↑(ae au t.fst).length:Int) == (0:Int))=false) bx)++ [yI N1,yB ([AV.sl 1 (ax l),ai (↑t.snd:Int)].length= [AV.sl 1 (ax l),ai (↑(dW l t.snd):Int)].length∧0< [AV.sl 1 (ax l),ai (↑(dW l t.snd):Int)].length) ⟨rfl,Nat.succ_pos _⟩,yB (((↑(ae au t.fst).length:Int) == (0:Int))=false) bx,yS (((g.aq.getD m default).name == (dv i).name)=true),yS (((↑(ae au t.fst).length:Int) == (0:Int))=false),yS (((g.aq.getD m default).name == (dv i).name)=true)])<|dm 41 ((↑(ik l t.snd (4:Int)):Int)>0)<|zK<|aK<|al<|zX (yH [(1,yV (ai ((↑m:Int)+1)))]) [yN ((↑m:Int)+1)] (aF (m+1) (by assumption) ag (eX [.aa [12,4,3,0,1,6,7,5] [4,5,1000000000000,3]] [] [5,1000000000000] [yB (ae au t.fst=ae au (nq l g i s (m+1)).fst) (by rw [qN]),yB ([AV.sl 1 (ax l),ai (↑(dW l t.snd):Int)]= [AV.sl 1 (ax l),ai (↑(nq l g i s (m+1)).snd:Int)]) (by rw [qN])]))
  ·have em:m=g.aq.length:=ag
   subst em
   refine zE 2<|a7<|aP<|bp<|aK<|al<|zX (yH [(1,yV (ai ((↑i:Int)+1)))]) [yN ((↑i:Int)+1)] (aF (i+1) (by assumption) ag (eX [.aa [4,3,0,1,6,5] [4,3,5,1000000000000]] [] [5,1000000000000] [yB (ae au t.fst=ae au (f_ l g k (i+1)).fst) (by rw [dC,ht]),yB ([AV.sl 1 (ax l),ai (↑t.snd:Int)]= [AV.sl 1 (ax l),ai (↑(f_ l g k (i+1)).snd:Int)]) (by rw [dC,ht])]))
 ·have ei:i=10:=ag
  subst ei
  have ho:=ra g hk 10
  have hD:Pr l g k= {fX (u64 (ik l (f_ l g k 10).2 5)) (ik l (dW l (f_ l g k 10).2) 9) (f_ l g k 10).1 (1+ik l (dW l (dW l (f_ l g k 10).2)) ((f_ l g k 10).1.length+1)) with peer:=5,box:=stream (u64 (ik l (dW l (dW l (dW l (f_ l g k 10).2))) 3)+1) 7 (20+ik l (dW l (dW l (dW l (dW l (f_ l g k 10).2)))) 3)}:=rfl
  have hA:Qm l g k=dW l (dW l (dW l (dW l (dW l (f_ l g k 10).2)))):=rfl
  generalize f_ l g k 10=s at *
  obtain ⟨L,k0⟩:=s
  obtain ⟨o1,o2,o3⟩:=ho
  simp only at o1 o2 o3 hD hA
  have hlen:(ae au L).length=L.length:=by rw [aA (e:=1) (fun _=>rfl)];omega
  have WY:L.length≤80:=Nat.le_trans o1 (Nat.mul_le_mul (Nat.le_refl _) hm)
  have N1:=dL l k0 5 o3 hl (by decide) (by decide)
  have a1:=dU o3
  generalize ik l k0 5=x1 at *
  generalize dW l k0=k1 at *
  have N2:=dL l k1 9 a1 hl (by decide) (by decide)
  have a2:=dU a1
  generalize ik l k1 9=x2 at *
  generalize dW l k1=k2 at *
  rw [show (L.length:Int)=((ae au L).length:Int) by omega] at hD
  have N3:=dL l k2 (((ae au L).length:Int)+1) a2 hl ag ag
  have b3:=l3 l k2 (n:=((ae au L).length:Int)+1) ag
  have a3:=dU a2
  generalize ik l k2 (((ae au L).length:Int)+1)=x3 at *
  generalize dW l k2=k3 at *
  have N4:=dL l k3 3 a3 hl (by decide) (by decide)
  have a4:=dU a3
  generalize ik l k3 3=x4 at *
  generalize dW l k3=k4 at *
  have N5:=dL l k4 3 a4 hl (by decide) (by decide)
  have b5:=l3 l k4 (n:=3) (by decide)
  generalize ik l k4 3=x5 at *
  generalize dW l k4=k5 at *
  have P2:=u0 (u64 x1) x2 L (1+x3) ag (fun i hi=>o2 _ (by rw [List.getD_eq_getElem?_getD,List.getElem?_eq_getElem hi];exact List.getElem_mem hi))
  have x_:=HN x4 (20+x5)
  rw [hD,hA]
  generalize fX (u64 x1) x2 L (1+x3)=D at *
  generalize tH (u64 x1) x2 L (1+x3)=SS at *
  generalize rT L (1+x3)=PE at *
  generalize stream (u64 x4+1) 7 (20+x5)=T at *
  have Xx:IntKind.i64.wrap (1+(x3:Int))=1+(x3:Int):=by rw [IntKind.wrap_i64];omega
  have Xw:IntKind.i64.wrap (20+(x5:Int))=20+(x5:Int):=by rw [IntKind.wrap_i64];omega
  refine zE 0<|a7<|aP<|bp<|al<|zP 3 [yH [(1,yE [(1000000000000,1000000000000)] N1),(2,yV (aw (u64 (↑x1:Int)))),(4,yE [(1000000000000,1000000000000)] N2),(8,{k:=(ae au L).length}),(9,yV (ai ((↑(ae au L).length:Int)+1))),(10,yE [(1000000000000,1000000000000)] N3),(11,yV (ai ((1:Int)+(↑x3:Int)))),(12,yD P2)],yH [(1,yE [(1000000000000,1000000000000)] N4),(3,yE [(1000000000000,1000000000000)] N5),(4,yV (ai ((20:Int)+(↑x5:Int)))),(5,yC x_)],{}] [.aa [8,12,4,3,0,1,6,5] [4,8,70,1000000000000,501061,401061,3]] [yI N1,yB ([AV.sl 1 (ax l),ai ↑k0].length= [AV.sl 1 (ax l),ai ↑k1].length∧0< [AV.sl 1 (ax l),ai ↑k1].length) ⟨rfl,Nat.succ_pos _⟩,yI (a8 ((↑x1:Int))),yI N2,yB ([AV.sl 1 (ax l),ai ↑k1].length= [AV.sl 1 (ax l),ai ↑k2].length∧0< [AV.sl 1 (ax l),ai ↑k2].length) ⟨rfl,Nat.succ_pos _⟩,yR ((ae au L).length),yN ((↑(ae au L).length:Int)+1),yI N3,yB ([AV.sl 1 (ax l),ai ↑k2].length= [AV.sl 1 (ax l),ai ↑k3].length∧0< [AV.sl 1 (ax l),ai ↑k3].length) ⟨rfl,Nat.succ_pos _⟩,yN ((1:Int)+(↑x3:Int)),yI P2,yL 7 7,yI N4,yB ([AV.sl 1 (ax l),ai ↑k3].length= [AV.sl 1 (ax l),ai ↑k4].length∧0< [AV.sl 1 (ax l),ai ↑k4].length) ⟨rfl,Nat.succ_pos _⟩,yI N5,yB ([AV.sl 1 (ax l),ai ↑k4].length= [AV.sl 1 (ax l),ai ↑k5].length∧0< [AV.sl 1 (ax l),ai ↑k5].length) ⟨rfl,Nat.succ_pos _⟩,yN ((20:Int)+(↑x5:Int)),yI x_,yI (aQ T),yL 2 7,yL 3 7,yL 7 7]<|zR (zG [.gM 70,.gM 401061,.gM 501061] [yR (Value.int .u64 (wv D.cm)),yR (Value.int .u64 5),yR (ah T),yR (ae au D.af),yR (aj D.ay),yR (Value.int .i64 D.need),yR (Value.int .u64 (wv D.target)),yR [AV.sl 1 (ax l),ai ↑k5]])
end Go.Proofs.YtjgbhhnghedgdaaGreatDoor
