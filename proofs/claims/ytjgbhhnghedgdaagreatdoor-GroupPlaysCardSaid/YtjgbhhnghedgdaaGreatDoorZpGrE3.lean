import Derived.Test.YtjgbhhnghedgdaaGreatDoorZpGrC3
set_option linter.all false
namespace Go.Proofs.YtjgbhhnghedgdaaGreatDoor
open Go.RowKit
set_option maxRecDepth 100000
set_option maxHeartbeats 4000000
def Et (l:List Int) (k:Nat):List (Nat×Row):=[(1000000000000,⟨1,false,true,[.sl 1 (ax l),ai k]⟩)]
def mK (l:List Int) (g:gB) (i:Nat) (s:List (List UInt8)×Nat):Nat->List (List UInt8)×Nat
 | 0=>s
 | m+1=>if (g.al.getD m default).name=(dY i).name then (if (mK l g i s m).1.length=0 then ((mK l g i s m).1++ [(dY i).name],(mK l g i s m).2) else if 0<gi l (mK l g i s m).2 4 then ((mK l g i s m).1++ [(dY i).name],dI l (mK l g i s m).2) else ((mK l g i s m).1,dI l (mK l g i s m).2)) else mK l g i s m
def fH (l:List Int) (g:gB) (k:Nat):Nat->List (List UInt8)×Nat
 | 0=>([],k)
 | i+1=>mK l g i (fH l g k i) g.al.length
structure Js (l:List Int) (s:List (List UInt8)×Nat) (n:Nat):Prop where
 len:s.1.length≤n
 NI:∀x∈s.1,x.length≤1000
 at_:s.2≤l.length
theorem mh (i:Nat):(dY i).name.length≤1000:=Nat.le_of_ble_eq_true rfl
theorem C8 {l:List Int} (g:gB) (i:Nat) {s:List (List UInt8)×Nat} {n:Nat} (h:Js l s n):∀m,Js l (mK l g i s m) (n+m)
 | 0=>h
 | m+1=>by
  obtain ⟨h1,h2,h3⟩:=C8 g i h m
  have hs:∀x∈(mK l g i s m).1++ [(dY i).name],x.length≤1000:=fun x hx=>by
   rcases List.mem_append.1 hx with hx|hx
   ·exact h2 x hx
   ·obtain rfl:=List.mem_singleton.1 hx;exact mh i
  unfold mK
  split
  ·split
   ·exact ⟨by simp;omega,hs,h3⟩
   split
   ·exact ⟨by simp;omega,hs,db h3⟩
   ·exact ⟨by show (mK l g i s m).1.length≤_;omega,h2,db h3⟩
  ·exact ⟨aj,h2,h3⟩
theorem qi {l:List Int} (g:gB) {k:Nat} (hk:k≤l.length):∀i,Js l (fH l g k i) (i*g.al.length)
 | 0=>⟨Nat.zero_le _,(by intro x hx;cases hx),hk⟩
 | i+1=>by
  have:=C8 g i (qi g hk i) g.al.length
  rw [Nat.succ_mul]
  exact this
theorem Gx (a:List (List UInt8)) (x:List UInt8):af ay a++ [cZ x]=af ay (a++ [x]):=gJ a x
def PS (l:List Int) (k n:Nat):List Int:=[gi l k 5,gi l (dI l k) 9,1+gi l (dI l (dI l k)) (n+1),gi l (dI l (dI l (dI l k))) 3,20+gi l (dI l (dI l (dI l (dI l k)))) 3]
def Nh (l:List Int) (g:gB) (k:Nat):mU :=
 {fF (u64 ((PS l (fH l g k 10).2 (fH l g k 10).1.length).getD 0 0)) ((PS l (fH l g k 10).2 (fH l g k 10).1.length).getD 1 0) (fH l g k 10).1 ((PS l (fH l g k 10).2 (fH l g k 10).1.length).getD 2 0) with
  peer:=5,box:=stream (u64 ((PS l (fH l g k 10).2 (fH l g k 10).1.length).getD 3 0)+1) 7 ((PS l (fH l g k 10).2 (fH l g k 10).1.length).getD 4 0)}
def Oi (l:List Int) (g:gB) (k:Nat):Nat:=dI l (dI l (dI l (dI l (dI l (fH l g k 10).2))))
theorem yo (l:List Int) (k:Nat) (g:gB) (hk:k≤l.length) (hl:l.length≤9223372036854775807) (hm:g.al.length≤8):gk Tryz.prog 38 [.addr 1000000000000 0,.agg (bV g)] (Et l k) (.agg (bg (Nh l g k))) (Et l (Oi l g k)):=by
 have l0:(af aI g.al).length=g.al.length*4:=aE (e:=4) (fun _=>rfl) ..
 unfold Et
 refine mV Tryz.func38 74<|zQ 2 [{},{}] []<|zS<|zq<|zB 0 (zL (fun (i:Nat)=>(⟨[(4,AV.addr 4 0),(3,AV.addr 3 0),(0,AV.addr 1000000000000 0),(1,AV.agg (bV g)),(6,ai i),(5,AV.ref 5)],[(4,⟨1,false,true,[dW,dW,AV.nil,AV.nil,AV.nil,ai 0,dW]⟩),(3,⟨1,false,true,List.map (aR 4) (List.map (aR 3) (bV g))⟩),(5,⟨1,true,false,af ay (fH l g k i).1⟩),(1000000000000,⟨1,false,true,[.sl 1 (ax l),ai (fH l g k i).2]⟩)]⟩:AS)) (fun i=>(i≤10)) (fun i=>(10-i)) (0) ?_ (zW [.nil 5 5 1,.aa [4,3,0,1,6,5] [4,3,5,1000000000000]]) ?_)
 ·omega
 intro i hi
 refine zS<|bf.na 1 [{}] bD (s':=AS.mk [(12,ao (decide ((↑i:Int)<10))),(11,ai ↑i),(4,AV.addr 4 0),(3,AV.addr 3 0),(0,AV.addr 1000000000000 0),(1,AV.agg (bV g)),(6,ai ↑i),(5,AV.ref 5)] [(4,Row.mk 1 false true [dW,dW,AV.nil,AV.nil,AV.nil,ai 0,dW]),(3,Row.mk 1 false true (List.map (aR 4) (List.map (aR 3) (bV g)))),(5,Row.mk 1 true false (af ay (fH l g k i).fst)),(1000000000000,Row.mk 1 false true [AV.sl 1 (ax l),ai (↑(fH l g k i).snd:Int)])]) (C:=[]) bD trivial (zD 12 ((↑i:Int)<10) (fun q=>?_) (fun q=>?_))
 ·have dD:i<10:=aj
  have Bs:=fK i dD
  have ho:=qi g hk i
  have q7:i*g.al.length≤80:=Nat.mul_le_mul hi hm
  have dL:fH l g k (i+1)=mK l g i (fH l g k i) g.al.length:=rfl
  have Uk:=fun m=>C8 g i ho m
  generalize fH l g k i=s at *
  refine a7<|zS<|zB 1<|zq<|zB 2 (zL (fun (m:Nat)=>(⟨[(12,ao (decide ((↑i:Int)<10))),(4,AV.addr 4 0),(3,AV.addr 3 0),(0,AV.addr 1000000000000 0),(1,AV.agg (bV g)),(6,ai ↑i),(7,ai m),(5,AV.ref 5)],[(4,⟨1,false,true,[dW,dW,AV.nil,AV.nil,AV.nil,ai 0,dW]⟩),(5,⟨1,true,false,af ay (mK l g i s m).1⟩),(1000000000000,⟨1,false,true,[.sl 1 (ax l),ai (mK l g i s m).2]⟩),(3,⟨1,false,true,bV g⟩)]⟩:AS)) (fun m=>(m≤g.al.length)) (fun m=>(g.al.length-m)) (0) ?_ (zW [.aa [12,4,3,0,1,6,7,5] [4,5,1000000000000,3]]) ?_)
  ·omega
  intro m H3
  obtain ⟨o1,o2,o3⟩:=Uk m
  have pW:mK l g i s (m+1)=if (g.al.getD m default).name=(dY i).name then (if (mK l g i s m).1.length=0 then ((mK l g i s m).1++ [(dY i).name],(mK l g i s m).2) else if 0<gi l (mK l g i s m).2 4 then ((mK l g i s m).1++ [(dY i).name],dI l (mK l g i s m).2) else ((mK l g i s m).1,dI l (mK l g i s m).2)) else mK l g i s m:=rfl
  have hlen:(af ay (mK l g i s m).1).length=(mK l g i s m).1.length:=by rw [aE (e:=1) (fun _=>rfl)];omega
  generalize ht:mK l g i s m=t at *
  refine zS<|bf.pG 1 [{hs:=[(3,{k:=g.al.length})]}] [.aa [19,12,4,3,0,1,6,7,5] [4,5,1000000000000,3]] bD (s':=AS.mk [(19,ao (decide ((↑m:Int)<(↑g.al.length:Int)))),(12,ao (decide ((↑i:Int)<10))),(4,AV.addr 4 0),(3,AV.addr 3 0),(0,AV.addr 1000000000000 0),(1,AV.agg (bV g)),(6,ai ↑i),(7,ai ↑m),(5,AV.ref 5)] [(4,Row.mk 1 false true [dW,dW,AV.nil,AV.nil,AV.nil,ai 0,dW]),(5,Row.mk 1 true false (af ay t.fst)),(1000000000000,Row.mk 1 false true [AV.sl 1 (ax l),ai (↑t.snd:Int)]),(3,Row.mk 1 false true (bV g))]) (C:=[(af aI g.al).length=g.al.length*4]) bD ⟨l0,trivial⟩ (zD 19 ((↑m:Int)<(↑g.al.length:Int)) (fun q2=>?_) (fun q2=>?_))
  ·have Rx:m<g.al.length:=aj
   have gT:=mg Rx
   by_cases cn:(g.al.getD m default).name=(dY i).name
   case neg =>
    rw [if_neg cn] at pW
    refine a7<|zS<|zB 3<|zP 1 [{hs:=[(3,{k:=m}),(5,yV (cZ (g.al.getD m default).name)),(7,yV (AV.agg (aI (dY i)))),(9,yV (ao ((g.al.getD m default).name == (dY i).name))),(11,{g:=false}),(12,{g:=false}),(13,{g:=false}),(14,{g:=false}),(18,{g:=false}),(19,{b:=false})],T:=9}] [.aa [41,29,19,12,4,3,0,1,6,7,5] [4,5,1000000000000,3]] ([yR (↑m:Int),yO (m*4<(af aI g.al).length),yA aI g.al m 0,yI Bs,yI (fY ((g.al.getD m default).name) ((dY i).name))]++yM 6 (yS (((g.al.getD m default).name == (dY i).name)=false)))<|zF 41<|zK<|aL<|ak<|zX (yH [(1,yV (ai ((↑m:Int)+1)))]) [yN ((↑m:Int)+1)] (aH (m+1) (by assumption) aj (eJ [.aa [12,4,3,0,1,6,7,5] [4,5,1000000000000,3]] [] [5,1000000000000] [yB (af ay t.fst=af ay (mK l g i s (m+1)).fst) (by rw [pW]),yB ([AV.sl 1 (ax l),ai (↑t.snd:Int)]= [AV.sl 1 (ax l),ai (↑(mK l g i s (m+1)).snd:Int)]) (by rw [pW])]))
   rw [if_pos cn] at pW
   have ss:=Gx t.1 (dY i).name
   by_cases c0:t.1.length=0
   ·rw [if_pos c0] at pW
    refine a7<|zS<|zB 3<|zP 1 [{hs:=[(3,{k:=m}),(5,yV (cZ (g.al.getD m default).name)),(7,yV (AV.agg (aI (dY i)))),(9,yV (ao ((g.al.getD m default).name == (dY i).name))),(12,{k:=(af ay t.fst).length})],T:=9}] [.aa [41,29,19,12,4,3,0,1,6,7,5] [4,5,1000000000000,3]] ([yR (↑m:Int),yO (m*4<(af aI g.al).length),yA aI g.al m 0,yI Bs,yI (fY ((g.al.getD m default).name) ((dY i).name))]++yM 2 (yS (((g.al.getD m default).name == (dY i).name)=true))++ [yR ((af ay t.fst).length)]++yM 2 (yS (((g.al.getD m default).name == (dY i).name)=true))++yM 3 (yB (((↑(af ay t.fst).length:Int) == (0:Int))=true) fi)++ [yS (((g.al.getD m default).name == (dY i).name)=true),yS (((↑(af ay t.fst).length:Int) == (0:Int))=true),yS (((g.al.getD m default).name == (dY i).name)=true)])<|zT 41<|zX (yH [(2,yV (AV.agg (aI (dY i))))]) [yI Bs,yO (((af ay t.fst).length+1)*16≤140737488355328)]<|aL<|ak<|zX (yH [(1,yV (ai ((↑m:Int)+1)))]) [yN ((↑m:Int)+1)] (aH (m+1) (by assumption) aj (eJ [.sm 47 5,.aa [12,4,3,0,1,6,7,5] [4,5,1000000000000,3]] [] [5,1000000000000] [yB (af ay t.fst++ [cZ (dY i).name]=af ay (mK l g i s (m+1)).fst) (by rw [pW];exact ss),yB ([AV.sl 1 (ax l),ai (↑t.snd:Int)]= [AV.sl 1 (ax l),ai (↑(mK l g i s (m+1)).snd:Int)]) (by rw [pW])]))
   rw [if_neg c0] at pW
   have N1:=cF l t.2 4 o3 hl (by decide) (by decide)
   by_cases cd:0<gi l t.2 4
   ·rw [if_pos cd] at pW
    refine a7<|zS<|zB 3<|zP 1 [{hs:=[(3,{k:=m}),(5,yV (cZ (g.al.getD m default).name)),(7,yV (AV.agg (aI (dY i)))),(9,yV (ao ((g.al.getD m default).name == (dY i).name))),(12,{k:=(af ay t.fst).length}),(15,{g:=false}),(16,{av:=some (ai (↑(gi l t.snd (4:Int)):Int)),g:=false,ln:=[(1000000000000,1000000000000)],ho:=[(1000000000000,Row.mk 1 false true [AV.sl 1 (ax l),ai (↑(dI l t.snd):Int)])]}),(17,{g:=false}),(18,{b:=false})],T:=9}] [.aa [41,29,19,12,4,3,0,1,6,7,5] [1000000000000,4,5,3]] ([yR (↑m:Int),yO (m*4<(af aI g.al).length),yA aI g.al m 0,yI Bs,yI (fY ((g.al.getD m default).name) ((dY i).name))]++yM 2 (yS (((g.al.getD m default).name == (dY i).name)=true))++ [yR ((af ay t.fst).length)]++yM 2 (yS (((g.al.getD m default).name == (dY i).name)=true))++yM 2 (yB (((↑(af ay t.fst).length:Int) == (0:Int))=false) bE)++ [yI N1,yB ([AV.sl 1 (ax l),ai (↑t.snd:Int)].length= [AV.sl 1 (ax l),ai (↑(dI l t.snd):Int)].length∧0< [AV.sl 1 (ax l),ai (↑(dI l t.snd):Int)].length) ⟨rfl,Nat.succ_pos _⟩,yB (((↑(af ay t.fst).length:Int) == (0:Int))=false) bE,yS (((g.al.getD m default).name == (dY i).name)=true),yS (((↑(af ay t.fst).length:Int) == (0:Int))=false),yS (((g.al.getD m default).name == (dY i).name)=true)])<|ib 41 ((↑(gi l t.snd (4:Int)):Int)>0)<|zX (yH [(2,yV (AV.agg (aI (dY i))))]) [yI Bs,yO (((af ay t.fst).length+1)*16≤140737488355328)]<|aL<|ak<|zX (yH [(1,yV (ai ((↑m:Int)+1)))]) [yN ((↑m:Int)+1)] (aH (m+1) (by assumption) aj (eJ [.sm 47 5,.aa [12,4,3,0,1,6,7,5] [4,5,1000000000000,3]] [] [5,1000000000000] [yB (af ay t.fst++ [cZ (dY i).name]=af ay (mK l g i s (m+1)).fst) (by rw [pW];exact ss),yB ([AV.sl 1 (ax l),ai (↑(dI l t.snd):Int)]= [AV.sl 1 (ax l),ai (↑(mK l g i s (m+1)).snd:Int)]) (by rw [pW])]))
   ·rw [if_neg cd] at pW
    refine a7<|zS<|zB 3<|zP 1 [{hs:=[(3,{k:=m}),(5,yV (cZ (g.al.getD m default).name)),(7,yV (AV.agg (aI (dY i)))),(9,yV (ao ((g.al.getD m default).name == (dY i).name))),(12,{k:=(af ay t.fst).length}),(15,{g:=false}),(16,{av:=some (ai (↑(gi l t.snd (4:Int)):Int)),g:=false,ln:=[(1000000000000,1000000000000)],ho:=[(1000000000000,Row.mk 1 false true [AV.sl 1 (ax l),ai (↑(dI l t.snd):Int)])]}),(17,{g:=false}),(18,{b:=false})],T:=9}] [.aa [41,29,19,12,4,3,0,1,6,7,5] [1000000000000,4,5,3]] ([yR (↑m:Int),yO (m*4<(af aI g.al).length),yA aI g.al m 0,yI Bs,yI (fY ((g.al.getD m default).name) ((dY i).name))]++yM 2 (yS (((g.al.getD m default).name == (dY i).name)=true))++ [yR ((af ay t.fst).length)]++yM 2 (yS (((g.al.getD m default).name == (dY i).name)=true))++yM 2 (yB (((↑(af ay t.fst).length:Int) == (0:Int))=false) bE)++ [yI N1,yB ([AV.sl 1 (ax l),ai (↑t.snd:Int)].length= [AV.sl 1 (ax l),ai (↑(dI l t.snd):Int)].length∧0< [AV.sl 1 (ax l),ai (↑(dI l t.snd):Int)].length) ⟨rfl,Nat.succ_pos _⟩,yB (((↑(af ay t.fst).length:Int) == (0:Int))=false) bE,yS (((g.al.getD m default).name == (dY i).name)=true),yS (((↑(af ay t.fst).length:Int) == (0:Int))=false),yS (((g.al.getD m default).name == (dY i).name)=true)])<|dp 41 ((↑(gi l t.snd (4:Int)):Int)>0)<|zK<|aL<|ak<|zX (yH [(1,yV (ai ((↑m:Int)+1)))]) [yN ((↑m:Int)+1)] (aH (m+1) (by assumption) aj (eJ [.aa [12,4,3,0,1,6,7,5] [4,5,1000000000000,3]] [] [5,1000000000000] [yB (af ay t.fst=af ay (mK l g i s (m+1)).fst) (by rw [pW]),yB ([AV.sl 1 (ax l),ai (↑(dI l t.snd):Int)]= [AV.sl 1 (ax l),ai (↑(mK l g i s (m+1)).snd:Int)]) (by rw [pW])]))
  ·have em:m=g.al.length:=aj
   subst em
   refine zE 2<|a_<|aP<|bo<|aL<|ak<|zX (yH [(1,yV (ai ((↑i:Int)+1)))]) [yN ((↑i:Int)+1)] (aH (i+1) (by assumption) aj (eJ [.aa [4,3,0,1,6,5] [4,3,5,1000000000000]] [] [5,1000000000000] [yB (af ay t.fst=af ay (fH l g k (i+1)).fst) (by rw [dL,ht]),yB ([AV.sl 1 (ax l),ai (↑t.snd:Int)]= [AV.sl 1 (ax l),ai (↑(fH l g k (i+1)).snd:Int)]) (by rw [dL,ht])]))
 ·have ei:i=10:=aj
  subst ei
  have ho:=qi g hk 10
  have hD:Nh l g k= {fF (u64 (gi l (fH l g k 10).2 5)) (gi l (dI l (fH l g k 10).2) 9) (fH l g k 10).1 (1+gi l (dI l (dI l (fH l g k 10).2)) ((fH l g k 10).1.length+1)) with peer:=5,box:=stream (u64 (gi l (dI l (dI l (dI l (fH l g k 10).2))) 3)+1) 7 (20+gi l (dI l (dI l (dI l (dI l (fH l g k 10).2)))) 3)}:=rfl
  have hA:Oi l g k=dI l (dI l (dI l (dI l (dI l (fH l g k 10).2)))):=rfl
  generalize fH l g k 10=s at *
  obtain ⟨L,k0⟩:=s
  obtain ⟨o1,o2,o3⟩:=ho
  simp only at o1 o2 o3 hD hA
  have hlen:(af ay L).length=L.length:=by rw [aE (e:=1) (fun _=>rfl)];omega
  have U1:L.length≤80:=Nat.le_trans o1 (Nat.mul_le_mul (Nat.le_refl _) hm)
  have N1:=cF l k0 5 o3 hl (by decide) (by decide)
  have a1:=db o3
  generalize gi l k0 5=x1 at *
  generalize dI l k0=k1 at *
  have N2:=cF l k1 9 a1 hl (by decide) (by decide)
  have a2:=db a1
  generalize gi l k1 9=x2 at *
  generalize dI l k1=k2 at *
  rw [show (L.length:Int)=((af ay L).length:Int) by omega] at hD
  have N3:=cF l k2 (((af ay L).length:Int)+1) a2 hl aj aj
  have b3:=kM l k2 (n:=((af ay L).length:Int)+1) aj
  have a3:=db a2
  generalize gi l k2 (((af ay L).length:Int)+1)=x3 at *
  generalize dI l k2=k3 at *
  have N4:=cF l k3 3 a3 hl (by decide) (by decide)
  have a4:=db a3
  generalize gi l k3 3=x4 at *
  generalize dI l k3=k4 at *
  have N5:=cF l k4 3 a4 hl (by decide) (by decide)
  have b5:=kM l k4 (n:=3) (by decide)
  generalize gi l k4 3=x5 at *
  generalize dI l k4=k5 at *
  have Pf:=tL (u64 x1) x2 L (1+x3) aj (fun i hi=>o2 _ (by rw [List.getD_eq_getElem?_getD,List.getElem?_eq_getElem hi];exact List.getElem_mem hi))
  have xN:=FU x4 (20+x5)
  rw [hD,hA]
  generalize fF (u64 x1) x2 L (1+x3)=D at *
  generalize sn (u64 x1) x2 L (1+x3)=SS at *
  generalize qK L (1+x3)=PE at *
  generalize stream (u64 x4+1) 7 (20+x5)=T at *
  have VB:IntKind.i64.wrap (1+(x3:Int))=1+(x3:Int):=by rw [IntKind.wrap_i64];omega
  have VA:IntKind.i64.wrap (20+(x5:Int))=20+(x5:Int):=by rw [IntKind.wrap_i64];omega
  refine zE 0<|a_<|aP<|bo<|ak<|zP 3 [yH [(1,{av:=some (ai ↑x1),ln:=[(1000000000000,1000000000000)],ho:=[(1000000000000,Row.mk 1 false true [AV.sl 1 (ax l),ai ↑k1])]}),(2,yV (aw (u64 (↑x1:Int)))),(4,{av:=some (ai ↑x2),ln:=[(1000000000000,1000000000000)],ho:=[(1000000000000,Row.mk 1 false true [AV.sl 1 (ax l),ai ↑k2])]}),(8,{k:=(af ay L).length}),(9,yV (ai ((↑(af ay L).length:Int)+1))),(10,{av:=some (ai ↑x3),ln:=[(1000000000000,1000000000000)],ho:=[(1000000000000,Row.mk 1 false true [AV.sl 1 (ax l),ai ↑k3])]}),(11,yV (ai ((1:Int)+(↑x3:Int)))),(12,{av:=some (AV.br [AV.agg [aw D.bF,aw D.peer,AV.own 1 (ag D.box),AV.own 1 (af ay D.ae),AV.own 1 (ah D.au),ai D.need,aw D.target],AV.own 1 (af sD SS),ai PE]),b:=false})],yH [(1,{av:=some (ai ↑x4),ln:=[(1000000000000,1000000000000)],ho:=[(1000000000000,Row.mk 1 false true [AV.sl 1 (ax l),ai ↑k4])]}),(3,{av:=some (ai ↑x5),ln:=[(1000000000000,1000000000000)],ho:=[(1000000000000,Row.mk 1 false true [AV.sl 1 (ax l),ai ↑k5])]}),(4,yV (ai ((20:Int)+(↑x5:Int)))),(5,yV (AV.own 1 (ag T)))],{}] [.aa [8,12,4,3,0,1,6,5] [4,8,70,1000000000000,501061,401061,3]] [yI N1,yB ([AV.sl 1 (ax l),ai ↑k0].length= [AV.sl 1 (ax l),ai ↑k1].length∧0< [AV.sl 1 (ax l),ai ↑k1].length) ⟨rfl,Nat.succ_pos _⟩,yI (a8 ((↑x1:Int))),yI N2,yB ([AV.sl 1 (ax l),ai ↑k1].length= [AV.sl 1 (ax l),ai ↑k2].length∧0< [AV.sl 1 (ax l),ai ↑k2].length) ⟨rfl,Nat.succ_pos _⟩,yR ((af ay L).length),yN ((↑(af ay L).length:Int)+1),yI N3,yB ([AV.sl 1 (ax l),ai ↑k2].length= [AV.sl 1 (ax l),ai ↑k3].length∧0< [AV.sl 1 (ax l),ai ↑k3].length) ⟨rfl,Nat.succ_pos _⟩,yN ((1:Int)+(↑x3:Int)),yI Pf,yL 7 7,yI N4,yB ([AV.sl 1 (ax l),ai ↑k3].length= [AV.sl 1 (ax l),ai ↑k4].length∧0< [AV.sl 1 (ax l),ai ↑k4].length) ⟨rfl,Nat.succ_pos _⟩,yI N5,yB ([AV.sl 1 (ax l),ai ↑k4].length= [AV.sl 1 (ax l),ai ↑k5].length∧0< [AV.sl 1 (ax l),ai ↑k5].length) ⟨rfl,Nat.succ_pos _⟩,yN ((20:Int)+(↑x5:Int)),yI xN,yI (aQ T),yL 2 7,yL 3 7,yL 7 7]<|zR (zG [.gp 70,.gp 401061,.gp 501061] [yR (Value.int .u64 (wv D.bF)),yR (Value.int .u64 5),yR (ag T),yR (af ay D.ae),yR (ah D.au),yR (Value.int .i64 D.need),yR (Value.int .u64 (wv D.target)),yR [AV.sl 1 (ax l),ai ↑k5]])
def DY:List Int:=[1,1,1,2,3,4,4,5,5,0,6]
def qR:List (List UInt8):=[[],[255],[109,49]]
def PV:mU:=⟨0,0,[],[],[],0,0⟩
def qc (g:gB) (kd:Int):fo:=⟨g.aA+1,g.head,kd,[],0,0,0,PV,0,0,[]⟩
def ym (l:List Int) (g:gB) (kd:Int) (n k:Nat):fo×Nat :=
 if kd=1 then ({qc g kd with name:=(dY n).name,kh:=(dY n).h,kr:=(dY n).r},k)
 else if kd=2 then ({qc g kd with name:=(dY n).name},k)
 else if kd=3 then ({qc g kd with bt:=gi l k 10},dI l k)
 else if kd=4 then ({qc g kd with dep:=Nh l g k},Oi l g k)
 else if kd=5 then (if g.aJ.length=0 then ({qc g kd with target:=u64 (gi l k 5)},dI l k) else ({qc g kd with target:=u64 (gi l k 5),bF:=(g.aJ.getD (gi l (dI l k) g.aJ.length) default).bF},dI l (dI l k)))
 else (qc g kd,k)
def A_ (l:List Int) (s:fo×Nat):fo×Nat :=
 if gi l s.2 24=23 then ({s.1 with aA:=s.1.aA+((gi l (dI l s.2) 3:Int)-1)},dI l (dI l s.2))
 else if gi l s.2 24=22 then ({s.1 with prev:=s.1.prev+1},dI l s.2)
 else if gi l s.2 24=21 then ({s.1 with name:=qR.getD (gi l (dI l s.2) 3) []},dI l (dI l s.2))
 else if gi l s.2 24=20 then ({s.1 with target:=7},dI l s.2)
 else if gi l s.2 24=19 then ({s.1 with dep:={s.1.dep with need:=(gi l (dI l s.2) 12:Int)-1}},dI l (dI l s.2))
 else (s.1,dI l s.2)
def Sr (l:List Int) (g:gB) (k:Nat):fo×Nat:=ym l g (DY.getD (gi l k 11) 0) (gi l (dI l k) 10) (dI l (dI l k))
def K3 (l:List Int) (g:gB) (k:Nat):fo×Nat:=A_ l (Sr l g k)
theorem HB {n:Nat} (h:n<11):(ax [1,1,1,2,3,4,4,5,5,0,6])[n]?=some (ai (DY.getD n 0)):=by
 rcases n with _|_|_|_|_|_|_|_|_|_|_|n<;>first|rfl|omega
theorem Hn {n:Nat} (h:n<3):(qR.map cZ)[n]?=some (cZ (qR.getD n [])):=by
 rw [List.getElem?_map,List.getD_eq_getElem?_getD,List.getElem?_eq_getElem (by exact h)];rfl
theorem I0 {l:List Int} (g:gB) {k:Nat} (h:k≤l.length):Oi l g k≤l.length:=db (db (db (db (db (qi g h 10).at_))))
end Go.Proofs.YtjgbhhnghedgdaaGreatDoor
