import Derived.Test.YtjgbhhnghedgdaaGreatDoorZvGrV1
set_option linter.all false
namespace Go.Proofs.YtjgbhhnghedgdaaGreatDoor
open Go.RowKit
set_option maxRecDepth 100000
set_option maxHeartbeats 4000000
def Aw (l:List Int) (k:Nat):List (Nat×Row):=[(1000000000000,⟨1,false,true,[.sl 1 (au l),ai k]⟩)]
def ns (l:List Int) (g:ig) (i:Nat) (s:List (List UInt8)×Nat):Nat->List (List UInt8)×Nat
 | 0=>s
 | m+1=>if (g.aq.getD m default).name=(eK i).name then (if (ns l g i s m).1.length=0 then ((ns l g i s m).1++ [(eK i).name],(ns l g i s m).2) else if 0<ia l (ns l g i s m).2 4 then ((ns l g i s m).1++ [(eK i).name],eg l (ns l g i s m).2) else ((ns l g i s m).1,eg l (ns l g i s m).2)) else ns l g i s m
def fY (l:List Int) (g:ig) (k:Nat):Nat->List (List UInt8)×Nat
 | 0=>([],k)
 | i+1=>ns l g i (fY l g k i) g.aq.length
structure Kv (l:List Int) (s:List (List UInt8)×Nat) (n:Nat):Prop where
 len:s.1.length≤n
 Rv:∀x∈s.1,x.length≤1000
 at_:s.2≤l.length
theorem kz (i:Nat):(eK i).name.length≤1000:=Nat.le_of_ble_eq_true rfl
theorem D_ {l:List Int} (g:ig) (i:Nat) {s:List (List UInt8)×Nat} {n:Nat} (h:Kv l s n):∀m,Kv l (ns l g i s m) (n+m)
 | 0=>h
 | m+1=>by
  obtain ⟨h1,h2,h3⟩:=D_ g i h m
  have hs:∀x∈(ns l g i s m).1++ [(eK i).name],x.length≤1000:=fun x hx=>by
   rcases List.mem_append.1 hx with hx|hx
   ·exact h2 x hx
   ·obtain rfl:=List.mem_singleton.1 hx;exact kz i
  unfold ns
  split
  ·split
   ·exact ⟨by simp;omega,hs,h3⟩
   split
   ·exact ⟨by simp;omega,hs,dS h3⟩
   ·exact ⟨by show (ns l g i s m).1.length≤_;omega,h2,dS h3⟩
  ·exact ⟨ag,h2,h3⟩
theorem q9 {l:List Int} (g:ig) {k:Nat} (hk:k≤l.length):∀i,Kv l (fY l g k i) (i*g.aq.length)
 | 0=>⟨Nat.zero_le _,(by intro x hx;cases hx),hk⟩
 | i+1=>by
  have:=D_ g i (q9 g hk i) g.aq.length
  rw [Nat.succ_mul]
  exact this
theorem HI (a:List (List UInt8)) (x:List UInt8):af ay a++ [cV x]=af ay (a++ [x]):=fR a x
def Q8 (l:List Int) (k n:Nat):List Int:=[ia l k 5,ia l (eg l k) 9,1+ia l (eg l (eg l k)) (n+1),ia l (eg l (eg l (eg l k))) 3,20+ia l (eg l (eg l (eg l (eg l k)))) 3]
def OB (l:List Int) (g:ig) (k:Nat):nH :=
 {fW (u64 ((Q8 l (fY l g k 10).2 (fY l g k 10).1.length).getD 0 0)) ((Q8 l (fY l g k 10).2 (fY l g k 10).1.length).getD 1 0) (fY l g k 10).1 ((Q8 l (fY l g k 10).2 (fY l g k 10).1.length).getD 2 0) with
  peer:=5,box:=stream (u64 ((Q8 l (fY l g k 10).2 (fY l g k 10).1.length).getD 3 0)+1) 7 ((Q8 l (fY l g k 10).2 (fY l g k 10).1.length).getD 4 0)}
def Pt (l:List Int) (g:ig) (k:Nat):Nat:=eg l (eg l (eg l (eg l (eg l (fY l g k 10).2))))
theorem Ae (l:List Int) (k:Nat) (g:ig) (hk:k≤l.length) (hl:l.length≤9223372036854775807) (hm:g.aq.length≤8):gn Tryz.prog 38 [.addr 1000000000000 0,.agg (dA g)] (Aw l k) (.agg (bj (OB l g k))) (Aw l (Pt l g k)):=by
 have nG:(af aT g.aq).length=g.aq.length*4:=aE (e:=4) (fun _=>rfl) ..
 unfold Aw
 refine nC Tryz.func38 74<|zQ 2 [{},{}] []<|zS<|zq<|zB 0 (zL (fun (i:Nat)=>(⟨[(4,AV.addr 4 0),(3,AV.addr 3 0),(0,AV.addr 1000000000000 0),(1,AV.agg (dA g)),(6,ai i),(5,AV.ref 5)],[(4,⟨1,false,true,[ez,ez,AV.nil,AV.nil,AV.nil,ai 0,ez]⟩),(3,⟨1,false,true,List.map (aF 4) (List.map (aF 3) (dA g))⟩),(5,⟨1,true,false,af ay (fY l g k i).1⟩),(1000000000000,⟨1,false,true,[.sl 1 (au l),ai (fY l g k i).2]⟩)]⟩:AS)) (fun i=>(i≤10)) (fun i=>(10-i)) (0) ?_ (zW [.nil 5 5 1,.aa [4,3,0,1,6,5] [4,3,5,1000000000000]]) ?_)
 ·omega
 intro i hi
 refine zS<|bg.mj 1 [{}] bu (s':=AS.mk [(12,ao (decide ((↑i:Int)<10))),(11,ai ↑i),(4,AV.addr 4 0),(3,AV.addr 3 0),(0,AV.addr 1000000000000 0),(1,AV.agg (dA g)),(6,ai ↑i),(5,AV.ref 5)] [(4,Row.mk 1 false true [ez,ez,AV.nil,AV.nil,AV.nil,ai 0,ez]),(3,Row.mk 1 false true (List.map (aF 4) (List.map (aF 3) (dA g)))),(5,Row.mk 1 true false (af ay (fY l g k i).fst)),(1000000000000,Row.mk 1 false true [AV.sl 1 (au l),ai (↑(fY l g k i).snd:Int)])]) (C:=[]) bu trivial (zD 12 ((↑i:Int)<10) (fun q=>?_) (fun q=>?_))
 ·have dI:i<10:=ag
  have oT:=f_ i dI
  have ho:=q9 g hk i
  have sd:i*g.aq.length≤80:=Nat.mul_le_mul hi hm
  have dJ:fY l g k (i+1)=ns l g i (fY l g k i) g.aq.length:=rfl
  have VY:=fun m=>D_ g i ho m
  generalize fY l g k i=s at *
  refine a_<|zS<|zB 1<|zq<|zB 2 (zL (fun (m:Nat)=>(⟨[(12,ao (decide ((↑i:Int)<10))),(4,AV.addr 4 0),(3,AV.addr 3 0),(0,AV.addr 1000000000000 0),(1,AV.agg (dA g)),(6,ai ↑i),(7,ai m),(5,AV.ref 5)],[(4,⟨1,false,true,[ez,ez,AV.nil,AV.nil,AV.nil,ai 0,ez]⟩),(5,⟨1,true,false,af ay (ns l g i s m).1⟩),(1000000000000,⟨1,false,true,[.sl 1 (au l),ai (ns l g i s m).2]⟩),(3,⟨1,false,true,dA g⟩)]⟩:AS)) (fun m=>(m≤g.aq.length)) (fun m=>(g.aq.length-m)) (0) ?_ (zW [.aa [12,4,3,0,1,6,7,5] [4,5,1000000000000,3]]) ?_)
  ·omega
  intro m Jb
  obtain ⟨o1,o2,o3⟩:=VY m
  have qJ:ns l g i s (m+1)=if (g.aq.getD m default).name=(eK i).name then (if (ns l g i s m).1.length=0 then ((ns l g i s m).1++ [(eK i).name],(ns l g i s m).2) else if 0<ia l (ns l g i s m).2 4 then ((ns l g i s m).1++ [(eK i).name],eg l (ns l g i s m).2) else ((ns l g i s m).1,eg l (ns l g i s m).2)) else ns l g i s m:=rfl
  have hlen:(af ay (ns l g i s m).1).length=(ns l g i s m).1.length:=by rw [aE (e:=1) (fun _=>rfl)];omega
  generalize ht:ns l g i s m=t at *
  refine zS<|bg.qm 1 [{hs:=[(3,{k:=g.aq.length})]}] [.aa [19,12,4,3,0,1,6,7,5] [4,5,1000000000000,3]] bu (s':=AS.mk [(19,ao (decide ((↑m:Int)<(↑g.aq.length:Int)))),(12,ao (decide ((↑i:Int)<10))),(4,AV.addr 4 0),(3,AV.addr 3 0),(0,AV.addr 1000000000000 0),(1,AV.agg (dA g)),(6,ai ↑i),(7,ai ↑m),(5,AV.ref 5)] [(4,Row.mk 1 false true [ez,ez,AV.nil,AV.nil,AV.nil,ai 0,ez]),(5,Row.mk 1 true false (af ay t.fst)),(1000000000000,Row.mk 1 false true [AV.sl 1 (au l),ai (↑t.snd:Int)]),(3,Row.mk 1 false true (dA g))]) (C:=[(af aT g.aq).length=g.aq.length*4]) bu ⟨nG,trivial⟩ (zD 19 ((↑m:Int)<(↑g.aq.length:Int)) (fun q2=>?_) (fun q2=>?_))
  ·have S7:m<g.aq.length:=ag
   have gM:=oO S7
   by_cases cn:(g.aq.getD m default).name=(eK i).name
   case neg =>
    rw [if_neg cn] at qJ
    refine a_<|zS<|zB 3<|zP 1 [{hs:=[(3,{k:=m}),(5,yV (cV (g.aq.getD m default).name)),(7,yC oT),(9,yV (ao ((g.aq.getD m default).name == (eK i).name))),(11,{g:=false}),(12,{g:=false}),(13,{g:=false}),(14,{g:=false}),(18,{g:=false}),(19,{b:=false})],T:=9}] [.aa [41,29,19,12,4,3,0,1,6,7,5] [4,5,1000000000000,3]] ([yR (↑m:Int),yO (m*4<(af aT g.aq).length),yA aT g.aq m 0,yI oT,yI (fF ((g.aq.getD m default).name) ((eK i).name))]++yM 6 (yS (((g.aq.getD m default).name == (eK i).name)=false)))<|zF 41<|zK<|aJ<|al<|zX (yH [(1,yV (ai ((↑m:Int)+1)))]) [yN ((↑m:Int)+1)] (aH (m+1) (by assumption) ag (eS [.aa [12,4,3,0,1,6,7,5] [4,5,1000000000000,3]] [] [5,1000000000000] [yB (af ay t.fst=af ay (ns l g i s (m+1)).fst) (by rw [qJ]),yB ([AV.sl 1 (au l),ai (↑t.snd:Int)]= [AV.sl 1 (au l),ai (↑(ns l g i s (m+1)).snd:Int)]) (by rw [qJ])]))
   rw [if_pos cn] at qJ
   have ss:=HI t.1 (eK i).name
   by_cases c0:t.1.length=0
   ·rw [if_pos c0] at qJ
    refine a_<|zS<|zB 3<|zP 1 [{hs:=[(3,{k:=m}),(5,yV (cV (g.aq.getD m default).name)),(7,yC oT),(9,yV (ao ((g.aq.getD m default).name == (eK i).name))),(12,{k:=(af ay t.fst).length})],T:=9}] [.aa [41,29,19,12,4,3,0,1,6,7,5] [4,5,1000000000000,3]] ([yR (↑m:Int),yO (m*4<(af aT g.aq).length),yA aT g.aq m 0,yI oT,yI (fF ((g.aq.getD m default).name) ((eK i).name))]++yM 2 (yS (((g.aq.getD m default).name == (eK i).name)=true))++ [yR ((af ay t.fst).length)]++yM 2 (yS (((g.aq.getD m default).name == (eK i).name)=true))++yM 3 (yB (((↑(af ay t.fst).length:Int) == (0:Int))=true) eJ)++ [yS (((g.aq.getD m default).name == (eK i).name)=true),yS (((↑(af ay t.fst).length:Int) == (0:Int))=true),yS (((g.aq.getD m default).name == (eK i).name)=true)])<|zT 41<|zX (yH [(2,yC oT)]) [yI oT,yO (((af ay t.fst).length+1)*16≤140737488355328)]<|aJ<|al<|zX (yH [(1,yV (ai ((↑m:Int)+1)))]) [yN ((↑m:Int)+1)] (aH (m+1) (by assumption) ag (eS [.uX 47 5,.aa [12,4,3,0,1,6,7,5] [4,5,1000000000000,3]] [] [5,1000000000000] [yB (af ay t.fst++ [cV (eK i).name]=af ay (ns l g i s (m+1)).fst) (by rw [qJ];exact ss),yB ([AV.sl 1 (au l),ai (↑t.snd:Int)]= [AV.sl 1 (au l),ai (↑(ns l g i s (m+1)).snd:Int)]) (by rw [qJ])]))
   rw [if_neg c0] at qJ
   have N1:=dt l t.2 4 o3 hl (by decide) (by decide)
   by_cases cd:0<ia l t.2 4
   ·rw [if_pos cd] at qJ
    refine a_<|zS<|zB 3<|zP 1 [{hs:=[(3,{k:=m}),(5,yV (cV (g.aq.getD m default).name)),(7,yC oT),(9,yV (ao ((g.aq.getD m default).name == (eK i).name))),(12,{k:=(af ay t.fst).length}),(15,{g:=false}),(16,{av:=some (ai (↑(ia l t.snd (4:Int)):Int)),g:=false,ln:=[(1000000000000,1000000000000)],ho:=[(1000000000000,Row.mk 1 false true [AV.sl 1 (au l),ai (↑(eg l t.snd):Int)])]}),(17,{g:=false}),(18,{b:=false})],T:=9}] [.aa [41,29,19,12,4,3,0,1,6,7,5] [1000000000000,4,5,3]] ([yR (↑m:Int),yO (m*4<(af aT g.aq).length),yA aT g.aq m 0,yI oT,yI (fF ((g.aq.getD m default).name) ((eK i).name))]++yM 2 (yS (((g.aq.getD m default).name == (eK i).name)=true))++ [yR ((af ay t.fst).length)]++yM 2 (yS (((g.aq.getD m default).name == (eK i).name)=true))++yM 2 (yB (((↑(af ay t.fst).length:Int) == (0:Int))=false) bD)++ [yI N1,yB ([AV.sl 1 (au l),ai (↑t.snd:Int)].length= [AV.sl 1 (au l),ai (↑(eg l t.snd):Int)].length∧0< [AV.sl 1 (au l),ai (↑(eg l t.snd):Int)].length) ⟨rfl,Nat.succ_pos _⟩,yB (((↑(af ay t.fst).length:Int) == (0:Int))=false) bD,yS (((g.aq.getD m default).name == (eK i).name)=true),yS (((↑(af ay t.fst).length:Int) == (0:Int))=false),yS (((g.aq.getD m default).name == (eK i).name)=true)])<|iw 41 ((↑(ia l t.snd (4:Int)):Int)>0)<|zX (yH [(2,yC oT)]) [yI oT,yO (((af ay t.fst).length+1)*16≤140737488355328)]<|aJ<|al<|zX (yH [(1,yV (ai ((↑m:Int)+1)))]) [yN ((↑m:Int)+1)] (aH (m+1) (by assumption) ag (eS [.uX 47 5,.aa [12,4,3,0,1,6,7,5] [4,5,1000000000000,3]] [] [5,1000000000000] [yB (af ay t.fst++ [cV (eK i).name]=af ay (ns l g i s (m+1)).fst) (by rw [qJ];exact ss),yB ([AV.sl 1 (au l),ai (↑(eg l t.snd):Int)]= [AV.sl 1 (au l),ai (↑(ns l g i s (m+1)).snd:Int)]) (by rw [qJ])]))
   ·rw [if_neg cd] at qJ
    refine a_<|zS<|zB 3<|zP 1 [{hs:=[(3,{k:=m}),(5,yV (cV (g.aq.getD m default).name)),(7,yC oT),(9,yV (ao ((g.aq.getD m default).name == (eK i).name))),(12,{k:=(af ay t.fst).length}),(15,{g:=false}),(16,{av:=some (ai (↑(ia l t.snd (4:Int)):Int)),g:=false,ln:=[(1000000000000,1000000000000)],ho:=[(1000000000000,Row.mk 1 false true [AV.sl 1 (au l),ai (↑(eg l t.snd):Int)])]}),(17,{g:=false}),(18,{b:=false})],T:=9}] [.aa [41,29,19,12,4,3,0,1,6,7,5] [1000000000000,4,5,3]] ([yR (↑m:Int),yO (m*4<(af aT g.aq).length),yA aT g.aq m 0,yI oT,yI (fF ((g.aq.getD m default).name) ((eK i).name))]++yM 2 (yS (((g.aq.getD m default).name == (eK i).name)=true))++ [yR ((af ay t.fst).length)]++yM 2 (yS (((g.aq.getD m default).name == (eK i).name)=true))++yM 2 (yB (((↑(af ay t.fst).length:Int) == (0:Int))=false) bD)++ [yI N1,yB ([AV.sl 1 (au l),ai (↑t.snd:Int)].length= [AV.sl 1 (au l),ai (↑(eg l t.snd):Int)].length∧0< [AV.sl 1 (au l),ai (↑(eg l t.snd):Int)].length) ⟨rfl,Nat.succ_pos _⟩,yB (((↑(af ay t.fst).length:Int) == (0:Int))=false) bD,yS (((g.aq.getD m default).name == (eK i).name)=true),yS (((↑(af ay t.fst).length:Int) == (0:Int))=false),yS (((g.aq.getD m default).name == (eK i).name)=true)])<|dF 41 ((↑(ia l t.snd (4:Int)):Int)>0)<|zK<|aJ<|al<|zX (yH [(1,yV (ai ((↑m:Int)+1)))]) [yN ((↑m:Int)+1)] (aH (m+1) (by assumption) ag (eS [.aa [12,4,3,0,1,6,7,5] [4,5,1000000000000,3]] [] [5,1000000000000] [yB (af ay t.fst=af ay (ns l g i s (m+1)).fst) (by rw [qJ]),yB ([AV.sl 1 (au l),ai (↑(eg l t.snd):Int)]= [AV.sl 1 (au l),ai (↑(ns l g i s (m+1)).snd:Int)]) (by rw [qJ])]))
  ·have em:m=g.aq.length:=ag
   subst em
   refine zE 2<|a6<|aM<|bm<|aJ<|al<|zX (yH [(1,yV (ai ((↑i:Int)+1)))]) [yN ((↑i:Int)+1)] (aH (i+1) (by assumption) ag (eS [.aa [4,3,0,1,6,5] [4,3,5,1000000000000]] [] [5,1000000000000] [yB (af ay t.fst=af ay (fY l g k (i+1)).fst) (by rw [dJ,ht]),yB ([AV.sl 1 (au l),ai (↑t.snd:Int)]= [AV.sl 1 (au l),ai (↑(fY l g k (i+1)).snd:Int)]) (by rw [dJ,ht])]))
 ·have ei:i=10:=ag
  subst ei
  have ho:=q9 g hk 10
  have hD:OB l g k= {fW (u64 (ia l (fY l g k 10).2 5)) (ia l (eg l (fY l g k 10).2) 9) (fY l g k 10).1 (1+ia l (eg l (eg l (fY l g k 10).2)) ((fY l g k 10).1.length+1)) with peer:=5,box:=stream (u64 (ia l (eg l (eg l (eg l (fY l g k 10).2))) 3)+1) 7 (20+ia l (eg l (eg l (eg l (eg l (fY l g k 10).2)))) 3)}:=rfl
  have hA:Pt l g k=eg l (eg l (eg l (eg l (eg l (fY l g k 10).2)))):=rfl
  generalize fY l g k 10=s at *
  obtain ⟨L,k0⟩:=s
  obtain ⟨o1,o2,o3⟩:=ho
  simp only at o1 o2 o3 hD hA
  have hlen:(af ay L).length=L.length:=by rw [aE (e:=1) (fun _=>rfl)];omega
  have WC:L.length≤80:=Nat.le_trans o1 (Nat.mul_le_mul (Nat.le_refl _) hm)
  have N1:=dt l k0 5 o3 hl (by decide) (by decide)
  have a1:=dS o3
  generalize ia l k0 5=x1 at *
  generalize eg l k0=k1 at *
  have N2:=dt l k1 9 a1 hl (by decide) (by decide)
  have a2:=dS a1
  generalize ia l k1 9=x2 at *
  generalize eg l k1=k2 at *
  rw [show (L.length:Int)=((af ay L).length:Int) by omega] at hD
  have N3:=dt l k2 (((af ay L).length:Int)+1) a2 hl ag ag
  have b3:=lp l k2 (n:=((af ay L).length:Int)+1) ag
  have a3:=dS a2
  generalize ia l k2 (((af ay L).length:Int)+1)=x3 at *
  generalize eg l k2=k3 at *
  have N4:=dt l k3 3 a3 hl (by decide) (by decide)
  have a4:=dS a3
  generalize ia l k3 3=x4 at *
  generalize eg l k3=k4 at *
  have N5:=dt l k4 3 a4 hl (by decide) (by decide)
  have b5:=lp l k4 (n:=3) (by decide)
  generalize ia l k4 3=x5 at *
  generalize eg l k4=k5 at *
  have O8:=u0 (u64 x1) x2 L (1+x3) ag (fun i hi=>o2 _ (by rw [List.getD_eq_getElem?_getD,List.getElem?_eq_getElem hi];exact List.getElem_mem hi))
  have xS:=G7 x4 (20+x5)
  rw [hD,hA]
  generalize fW (u64 x1) x2 L (1+x3)=D at *
  generalize tC (u64 x1) x2 L (1+x3)=SS at *
  generalize rP L (1+x3)=PE at *
  generalize stream (u64 x4+1) 7 (20+x5)=T at *
  have Xi:IntKind.i64.wrap (1+(x3:Int))=1+(x3:Int):=by rw [IntKind.wrap_i64];omega
  have Xh:IntKind.i64.wrap (20+(x5:Int))=20+(x5:Int):=by rw [IntKind.wrap_i64];omega
  refine zE 0<|a6<|aM<|bm<|al<|zP 3 [yH [(1,yE [(1000000000000,1000000000000)] N1),(2,yV (aw (u64 (↑x1:Int)))),(4,yE [(1000000000000,1000000000000)] N2),(8,{k:=(af ay L).length}),(9,yV (ai ((↑(af ay L).length:Int)+1))),(10,yE [(1000000000000,1000000000000)] N3),(11,yV (ai ((1:Int)+(↑x3:Int)))),(12,yD O8)],yH [(1,yE [(1000000000000,1000000000000)] N4),(3,yE [(1000000000000,1000000000000)] N5),(4,yV (ai ((20:Int)+(↑x5:Int)))),(5,yC xS)],{}] [.aa [8,12,4,3,0,1,6,5] [4,8,70,1000000000000,501061,401061,3]] [yI N1,yB ([AV.sl 1 (au l),ai ↑k0].length= [AV.sl 1 (au l),ai ↑k1].length∧0< [AV.sl 1 (au l),ai ↑k1].length) ⟨rfl,Nat.succ_pos _⟩,yI (a7 ((↑x1:Int))),yI N2,yB ([AV.sl 1 (au l),ai ↑k1].length= [AV.sl 1 (au l),ai ↑k2].length∧0< [AV.sl 1 (au l),ai ↑k2].length) ⟨rfl,Nat.succ_pos _⟩,yR ((af ay L).length),yN ((↑(af ay L).length:Int)+1),yI N3,yB ([AV.sl 1 (au l),ai ↑k2].length= [AV.sl 1 (au l),ai ↑k3].length∧0< [AV.sl 1 (au l),ai ↑k3].length) ⟨rfl,Nat.succ_pos _⟩,yN ((1:Int)+(↑x3:Int)),yI O8,yL 7 7,yI N4,yB ([AV.sl 1 (au l),ai ↑k3].length= [AV.sl 1 (au l),ai ↑k4].length∧0< [AV.sl 1 (au l),ai ↑k4].length) ⟨rfl,Nat.succ_pos _⟩,yI N5,yB ([AV.sl 1 (au l),ai ↑k4].length= [AV.sl 1 (au l),ai ↑k5].length∧0< [AV.sl 1 (au l),ai ↑k5].length) ⟨rfl,Nat.succ_pos _⟩,yN ((20:Int)+(↑x5:Int)),yI xS,yI (aV T),yL 2 7,yL 3 7,yL 7 7]<|zR (zG [.gR 70,.gR 401061,.gR 501061] [yR (Value.int .u64 (wv D.bV)),yR (Value.int .u64 5),yR (aj T),yR (af ay D.ae),yR (ah D.ax),yR (Value.int .i64 D.need),yR (Value.int .u64 (wv D.target)),yR [AV.sl 1 (au l),ai ↑k5]])
end Go.Proofs.YtjgbhhnghedgdaaGreatDoor
