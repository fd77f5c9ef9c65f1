import Derived.Test.YtjgbhhnghedgdaaGreatDoorZaGrC3
set_option linter.all false
namespace Go.Proofs.YtjgbhhnghedgdaaGreatDoor
open Go.RowKit
set_option maxRecDepth 100000
set_option maxHeartbeats 4000000
def zg (l:List Int) (k:Nat):List (Nat×Row):=[(1000000000000,⟨1,false,true,[.sl 1 (ax l),ai k]⟩)]
def mU (l:List Int) (g:gK) (i:Nat) (s:List (List UInt8)×Nat):Nat->List (List UInt8)×Nat
 | 0=>s
 | m+1=>if (g.al.getD m default).name=(dK i).name then (if (mU l g i s m).1.length=0 then ((mU l g i s m).1++ [(dK i).name],(mU l g i s m).2) else if 0<gV l (mU l g i s m).2 4 then ((mU l g i s m).1++ [(dK i).name],dS l (mU l g i s m).2) else ((mU l g i s m).1,dS l (mU l g i s m).2)) else mU l g i s m
def fH (l:List Int) (g:gK) (k:Nat):Nat->List (List UInt8)×Nat
 | 0=>([],k)
 | i+1=>mU l g i (fH l g k i) g.al.length
structure JR (l:List Int) (s:List (List UInt8)×Nat) (n:Nat):Prop where
 len:s.1.length≤n
 Pa:∀x∈s.1,x.length≤1000
 at_:s.2≤l.length
theorem mv (i:Nat):(dK i).name.length≤1000:=Nat.le_of_ble_eq_true rfl
theorem Ds {l:List Int} (g:gK) (i:Nat) {s:List (List UInt8)×Nat} {n:Nat} (h:JR l s n):∀m,JR l (mU l g i s m) (n+m)
 | 0=>h
 | m+1=>by
  obtain ⟨h1,h2,h3⟩:=Ds g i h m
  have hs:∀x∈(mU l g i s m).1++ [(dK i).name],x.length≤1000:=fun x hx=>by
   rcases List.mem_append.1 hx with hx|hx
   ·exact h2 x hx
   ·obtain rfl:=List.mem_singleton.1 hx;exact mv i
  unfold mU
  split
  ·split
   ·exact ⟨by simp;omega,hs,h3⟩
   split
   ·exact ⟨by simp;omega,hs,dN h3⟩
   ·exact ⟨by show (mU l g i s m).1.length≤_;omega,h2,dN h3⟩
  ·exact ⟨ah,h2,h3⟩
theorem qq {l:List Int} (g:gK) {k:Nat} (hk:k≤l.length):∀i,JR l (fH l g k i) (i*g.al.length)
 | 0=>⟨Nat.zero_le _,(by intro x hx;cases hx),hk⟩
 | i+1=>by
  have:=Ds g i (qq g hk i) g.al.length
  rw [Nat.succ_mul]
  exact this
theorem G2 (a:List (List UInt8)) (x:List UInt8):af ay a++ [db x]=af ay (a++ [x]):=fV a x
def Qj (l:List Int) (k n:Nat):List Int:=[gV l k 5,gV l (dS l k) 9,1+gV l (dS l (dS l k)) (n+1),gV l (dS l (dS l (dS l k))) 3,20+gV l (dS l (dS l (dS l (dS l k)))) 3]
def NK (l:List Int) (g:gK) (k:Nat):m0 :=
 {fF (u64 ((Qj l (fH l g k 10).2 (fH l g k 10).1.length).getD 0 0)) ((Qj l (fH l g k 10).2 (fH l g k 10).1.length).getD 1 0) (fH l g k 10).1 ((Qj l (fH l g k 10).2 (fH l g k 10).1.length).getD 2 0) with
  peer:=5,box:=stream (u64 ((Qj l (fH l g k 10).2 (fH l g k 10).1.length).getD 3 0)+1) 7 ((Qj l (fH l g k 10).2 (fH l g k 10).1.length).getD 4 0)}
def OJ (l:List Int) (g:gK) (k:Nat):Nat:=dS l (dS l (dS l (dS l (dS l (fH l g k 10).2))))
theorem yG (l:List Int) (k:Nat) (g:gK) (hk:k≤l.length) (hl:l.length≤9223372036854775807) (hm:g.al.length≤8):ga Tryz.prog 38 [.addr 1000000000000 0,.agg (bB g)] (zg l k) (.agg (bc (NK l g k))) (zg l (OJ l g k)):=by
 have mb:(af aH g.al).length=g.al.length*4:=aF (e:=4) (fun _=>rfl) ..
 unfold zg
 refine m5 Tryz.func38 74<|zQ 2 [{},{}] []<|zS<|zq<|zB 0 (zL (fun (i:Nat)=>(⟨[(4,AV.addr 4 0),(3,AV.addr 3 0),(0,AV.addr 1000000000000 0),(1,AV.agg (bB g)),(6,ai i),(5,AV.ref 5)],[(4,⟨1,false,true,[cO,cO,AV.nil,AV.nil,AV.nil,ai 0,cO]⟩),(3,⟨1,false,true,List.map (aD 4) (List.map (aD 3) (bB g))⟩),(5,⟨1,true,false,af ay (fH l g k i).1⟩),(1000000000000,⟨1,false,true,[.sl 1 (ax l),ai (fH l g k i).2]⟩)]⟩:AS)) (fun i=>(i≤10)) (fun i=>(10-i)) (0) ?_ (zW [.nil 5 5 1,.ae [4,3,0,1,6,5] [4,3,5,1000000000000]]) ?_)
 ·omega
 intro i hi
 refine zS<|bf.i9 1 [{}] bh (s':=AS.mk [(12,ao (decide ((↑i:Int)<10))),(11,ai ↑i),(4,AV.addr 4 0),(3,AV.addr 3 0),(0,AV.addr 1000000000000 0),(1,AV.agg (bB g)),(6,ai ↑i),(5,AV.ref 5)] [(4,Row.mk 1 false true [cO,cO,AV.nil,AV.nil,AV.nil,ai 0,cO]),(3,Row.mk 1 false true (List.map (aD 4) (List.map (aD 3) (bB g)))),(5,Row.mk 1 true false (af ay (fH l g k i).fst)),(1000000000000,Row.mk 1 false true [AV.sl 1 (ax l),ai (↑(fH l g k i).snd:Int)])]) (C:=[]) bh trivial (zD 12 ((↑i:Int)<10) (fun q=>?_) (fun q=>?_))
 ·have dz:i<10:=ah
  have zd:=gr i dz
  have ho:=qq g hk i
  have rj:i*g.al.length≤80:=Nat.mul_le_mul hi hm
  have dP:fH l g k (i+1)=mU l g i (fH l g k i) g.al.length:=rfl
  have UH:=fun m=>Ds g i ho m
  generalize fH l g k i=s at *
  refine a_<|zS<|zB 1<|zq<|zB 2 (zL (fun (m:Nat)=>(⟨[(12,ao (decide ((↑i:Int)<10))),(4,AV.addr 4 0),(3,AV.addr 3 0),(0,AV.addr 1000000000000 0),(1,AV.agg (bB g)),(6,ai ↑i),(7,ai m),(5,AV.ref 5)],[(4,⟨1,false,true,[cO,cO,AV.nil,AV.nil,AV.nil,ai 0,cO]⟩),(5,⟨1,true,false,af ay (mU l g i s m).1⟩),(1000000000000,⟨1,false,true,[.sl 1 (ax l),ai (mU l g i s m).2]⟩),(3,⟨1,false,true,bB g⟩)]⟩:AS)) (fun m=>(m≤g.al.length)) (fun m=>(g.al.length-m)) (0) ?_ (zW [.ae [12,4,3,0,1,6,7,5] [4,5,1000000000000,3]]) ?_)
  ·omega
  intro m Iq
  obtain ⟨o1,o2,o3⟩:=UH m
  have qa:mU l g i s (m+1)=if (g.al.getD m default).name=(dK i).name then (if (mU l g i s m).1.length=0 then ((mU l g i s m).1++ [(dK i).name],(mU l g i s m).2) else if 0<gV l (mU l g i s m).2 4 then ((mU l g i s m).1++ [(dK i).name],dS l (mU l g i s m).2) else ((mU l g i s m).1,dS l (mU l g i s m).2)) else mU l g i s m:=rfl
  have hlen:(af ay (mU l g i s m).1).length=(mU l g i s m).1.length:=by rw [aF (e:=1) (fun _=>rfl)];omega
  generalize ht:mU l g i s m=t at *
  refine zS<|bf.jW 1 [{hs:=[(3,{k:=g.al.length})]}] [.ae [19,12,4,3,0,1,6,7,5] [4,5,1000000000000,3]] bh (s':=AS.mk [(19,ao (decide ((↑m:Int)<(↑g.al.length:Int)))),(12,ao (decide ((↑i:Int)<10))),(4,AV.addr 4 0),(3,AV.addr 3 0),(0,AV.addr 1000000000000 0),(1,AV.agg (bB g)),(6,ai ↑i),(7,ai ↑m),(5,AV.ref 5)] [(4,Row.mk 1 false true [cO,cO,AV.nil,AV.nil,AV.nil,ai 0,cO]),(5,Row.mk 1 true false (af ay t.fst)),(1000000000000,Row.mk 1 false true [AV.sl 1 (ax l),ai (↑t.snd:Int)]),(3,Row.mk 1 false true (bB g))]) (C:=[(af aH g.al).length=g.al.length*4]) bh ⟨mb,trivial⟩ (zD 19 ((↑m:Int)<(↑g.al.length:Int)) (fun q2=>?_) (fun q2=>?_))
  ·have RW:m<g.al.length:=ah
   have gh:=mu RW
   by_cases cn:(g.al.getD m default).name=(dK i).name
   case neg =>
    rw [if_neg cn] at qa
    refine a_<|zS<|zB 3<|zP 1 [{hs:=[(3,{k:=m}),(5,yV (db (g.al.getD m default).name)),(7,yV (AV.agg (aH (dK i)))),(9,yV (ao ((g.al.getD m default).name == (dK i).name))),(11,{g:=false}),(12,{g:=false}),(13,{g:=false}),(14,{g:=false}),(18,{g:=false}),(19,{b:=false})],T:=9}] [.ae [41,29,19,12,4,3,0,1,6,7,5] [4,5,1000000000000,3]] ([yR (↑m:Int),yO (m*4<(af aH g.al).length),yA aH g.al m 0,yI zd,yI (fX ((g.al.getD m default).name) ((dK i).name))]++yM 6 (yS (((g.al.getD m default).name == (dK i).name)=false)))<|zF 41<|zK<|aM<|ak<|zX (yH [(1,yV (ai ((↑m:Int)+1)))]) [yN ((↑m:Int)+1)] (aJ (m+1) (by assumption) ah (eK [.ae [12,4,3,0,1,6,7,5] [4,5,1000000000000,3]] [] [5,1000000000000] [yB (af ay t.fst=af ay (mU l g i s (m+1)).fst) (by rw [qa]),yB ([AV.sl 1 (ax l),ai (↑t.snd:Int)]= [AV.sl 1 (ax l),ai (↑(mU l g i s (m+1)).snd:Int)]) (by rw [qa])]))
   rw [if_pos cn] at qa
   have ss:=G2 t.1 (dK i).name
   by_cases c0:t.1.length=0
   ·rw [if_pos c0] at qa
    refine a_<|zS<|zB 3<|zP 1 [{hs:=[(3,{k:=m}),(5,yV (db (g.al.getD m default).name)),(7,yV (AV.agg (aH (dK i)))),(9,yV (ao ((g.al.getD m default).name == (dK i).name))),(12,{k:=(af ay t.fst).length})],T:=9}] [.ae [41,29,19,12,4,3,0,1,6,7,5] [4,5,1000000000000,3]] ([yR (↑m:Int),yO (m*4<(af aH g.al).length),yA aH g.al m 0,yI zd,yI (fX ((g.al.getD m default).name) ((dK i).name))]++yM 2 (yS (((g.al.getD m default).name == (dK i).name)=true))++ [yR ((af ay t.fst).length)]++yM 2 (yS (((g.al.getD m default).name == (dK i).name)=true))++yM 3 (yB (((↑(af ay t.fst).length:Int) == (0:Int))=true) fb)++ [yS (((g.al.getD m default).name == (dK i).name)=true),yS (((↑(af ay t.fst).length:Int) == (0:Int))=true),yS (((g.al.getD m default).name == (dK i).name)=true)])<|zT 41<|zX (yH [(2,yV (AV.agg (aH (dK i))))]) [yI zd,yO (((af ay t.fst).length+1)*16≤140737488355328)]<|aM<|ak<|zX (yH [(1,yV (ai ((↑m:Int)+1)))]) [yN ((↑m:Int)+1)] (aJ (m+1) (by assumption) ah (eK [.vo 47 5,.ae [12,4,3,0,1,6,7,5] [4,5,1000000000000,3]] [] [5,1000000000000] [yB (af ay t.fst++ [db (dK i).name]=af ay (mU l g i s (m+1)).fst) (by rw [qa];exact ss),yB ([AV.sl 1 (ax l),ai (↑t.snd:Int)]= [AV.sl 1 (ax l),ai (↑(mU l g i s (m+1)).snd:Int)]) (by rw [qa])]))
   rw [if_neg c0] at qa
   have N1:=dE l t.2 4 o3 hl (by decide) (by decide)
   by_cases cd:0<gV l t.2 4
   ·rw [if_pos cd] at qa
    refine a_<|zS<|zB 3<|zP 1 [{hs:=[(3,{k:=m}),(5,yV (db (g.al.getD m default).name)),(7,yV (AV.agg (aH (dK i)))),(9,yV (ao ((g.al.getD m default).name == (dK i).name))),(12,{k:=(af ay t.fst).length}),(15,{g:=false}),(16,{av:=some (ai (↑(gV l t.snd (4:Int)):Int)),g:=false,ln:=[(1000000000000,1000000000000)],ho:=[(1000000000000,Row.mk 1 false true [AV.sl 1 (ax l),ai (↑(dS l t.snd):Int)])]}),(17,{g:=false}),(18,{b:=false})],T:=9}] [.ae [41,29,19,12,4,3,0,1,6,7,5] [1000000000000,4,5,3]] ([yR (↑m:Int),yO (m*4<(af aH g.al).length),yA aH g.al m 0,yI zd,yI (fX ((g.al.getD m default).name) ((dK i).name))]++yM 2 (yS (((g.al.getD m default).name == (dK i).name)=true))++ [yR ((af ay t.fst).length)]++yM 2 (yS (((g.al.getD m default).name == (dK i).name)=true))++yM 2 (yB (((↑(af ay t.fst).length:Int) == (0:Int))=false) bE)++ [yI N1,yB ([AV.sl 1 (ax l),ai (↑t.snd:Int)].length= [AV.sl 1 (ax l),ai (↑(dS l t.snd):Int)].length∧0< [AV.sl 1 (ax l),ai (↑(dS l t.snd):Int)].length) ⟨rfl,Nat.succ_pos _⟩,yB (((↑(af ay t.fst).length:Int) == (0:Int))=false) bE,yS (((g.al.getD m default).name == (dK i).name)=true),yS (((↑(af ay t.fst).length:Int) == (0:Int))=false),yS (((g.al.getD m default).name == (dK i).name)=true)])<|gT 41 ((↑(gV l t.snd (4:Int)):Int)>0)<|zX (yH [(2,yV (AV.agg (aH (dK i))))]) [yI zd,yO (((af ay t.fst).length+1)*16≤140737488355328)]<|aM<|ak<|zX (yH [(1,yV (ai ((↑m:Int)+1)))]) [yN ((↑m:Int)+1)] (aJ (m+1) (by assumption) ah (eK [.vo 47 5,.ae [12,4,3,0,1,6,7,5] [4,5,1000000000000,3]] [] [5,1000000000000] [yB (af ay t.fst++ [db (dK i).name]=af ay (mU l g i s (m+1)).fst) (by rw [qa];exact ss),yB ([AV.sl 1 (ax l),ai (↑(dS l t.snd):Int)]= [AV.sl 1 (ax l),ai (↑(mU l g i s (m+1)).snd:Int)]) (by rw [qa])]))
   ·rw [if_neg cd] at qa
    refine a_<|zS<|zB 3<|zP 1 [{hs:=[(3,{k:=m}),(5,yV (db (g.al.getD m default).name)),(7,yV (AV.agg (aH (dK i)))),(9,yV (ao ((g.al.getD m default).name == (dK i).name))),(12,{k:=(af ay t.fst).length}),(15,{g:=false}),(16,{av:=some (ai (↑(gV l t.snd (4:Int)):Int)),g:=false,ln:=[(1000000000000,1000000000000)],ho:=[(1000000000000,Row.mk 1 false true [AV.sl 1 (ax l),ai (↑(dS l t.snd):Int)])]}),(17,{g:=false}),(18,{b:=false})],T:=9}] [.ae [41,29,19,12,4,3,0,1,6,7,5] [1000000000000,4,5,3]] ([yR (↑m:Int),yO (m*4<(af aH g.al).length),yA aH g.al m 0,yI zd,yI (fX ((g.al.getD m default).name) ((dK i).name))]++yM 2 (yS (((g.al.getD m default).name == (dK i).name)=true))++ [yR ((af ay t.fst).length)]++yM 2 (yS (((g.al.getD m default).name == (dK i).name)=true))++yM 2 (yB (((↑(af ay t.fst).length:Int) == (0:Int))=false) bE)++ [yI N1,yB ([AV.sl 1 (ax l),ai (↑t.snd:Int)].length= [AV.sl 1 (ax l),ai (↑(dS l t.snd):Int)].length∧0< [AV.sl 1 (ax l),ai (↑(dS l t.snd):Int)].length) ⟨rfl,Nat.succ_pos _⟩,yB (((↑(af ay t.fst).length:Int) == (0:Int))=false) bE,yS (((g.al.getD m default).name == (dK i).name)=true),yS (((↑(af ay t.fst).length:Int) == (0:Int))=false),yS (((g.al.getD m default).name == (dK i).name)=true)])<|dp 41 ((↑(gV l t.snd (4:Int)):Int)>0)<|zK<|aM<|ak<|zX (yH [(1,yV (ai ((↑m:Int)+1)))]) [yN ((↑m:Int)+1)] (aJ (m+1) (by assumption) ah (eK [.ae [12,4,3,0,1,6,7,5] [4,5,1000000000000,3]] [] [5,1000000000000] [yB (af ay t.fst=af ay (mU l g i s (m+1)).fst) (by rw [qa]),yB ([AV.sl 1 (ax l),ai (↑(dS l t.snd):Int)]= [AV.sl 1 (ax l),ai (↑(mU l g i s (m+1)).snd:Int)]) (by rw [qa])]))
  ·have em:m=g.al.length:=ah
   subst em
   refine zE 2<|a7<|aO<|bn<|aM<|ak<|zX (yH [(1,yV (ai ((↑i:Int)+1)))]) [yN ((↑i:Int)+1)] (aJ (i+1) (by assumption) ah (eK [.ae [4,3,0,1,6,5] [4,3,5,1000000000000]] [] [5,1000000000000] [yB (af ay t.fst=af ay (fH l g k (i+1)).fst) (by rw [dP,ht]),yB ([AV.sl 1 (ax l),ai (↑t.snd:Int)]= [AV.sl 1 (ax l),ai (↑(fH l g k (i+1)).snd:Int)]) (by rw [dP,ht])]))
 ·have ei:i=10:=ah
  subst ei
  have ho:=qq g hk 10
  have hD:NK l g k= {fF (u64 (gV l (fH l g k 10).2 5)) (gV l (dS l (fH l g k 10).2) 9) (fH l g k 10).1 (1+gV l (dS l (dS l (fH l g k 10).2)) ((fH l g k 10).1.length+1)) with peer:=5,box:=stream (u64 (gV l (dS l (dS l (dS l (fH l g k 10).2))) 3)+1) 7 (20+gV l (dS l (dS l (dS l (dS l (fH l g k 10).2)))) 3)}:=rfl
  have hA:OJ l g k=dS l (dS l (dS l (dS l (dS l (fH l g k 10).2)))):=rfl
  generalize fH l g k 10=s at *
  obtain ⟨L,k0⟩:=s
  obtain ⟨o1,o2,o3⟩:=ho
  simp only at o1 o2 o3 hD hA
  have hlen:(af ay L).length=L.length:=by rw [aF (e:=1) (fun _=>rfl)];omega
  have Vp:L.length≤80:=Nat.le_trans o1 (Nat.mul_le_mul (Nat.le_refl _) hm)
  have N1:=dE l k0 5 o3 hl (by decide) (by decide)
  have a1:=dN o3
  generalize gV l k0 5=x1 at *
  generalize dS l k0=k1 at *
  have N2:=dE l k1 9 a1 hl (by decide) (by decide)
  have a2:=dN a1
  generalize gV l k1 9=x2 at *
  generalize dS l k1=k2 at *
  rw [show (L.length:Int)=((af ay L).length:Int) by omega] at hD
  have N3:=dE l k2 (((af ay L).length:Int)+1) a2 hl ah ah
  have b3:=lE l k2 (n:=((af ay L).length:Int)+1) ah
  have a3:=dN a2
  generalize gV l k2 (((af ay L).length:Int)+1)=x3 at *
  generalize dS l k2=k3 at *
  have N4:=dE l k3 3 a3 hl (by decide) (by decide)
  have a4:=dN a3
  generalize gV l k3 3=x4 at *
  generalize dS l k3=k4 at *
  have N5:=dE l k4 3 a4 hl (by decide) (by decide)
  have b5:=lE l k4 (n:=3) (by decide)
  generalize gV l k4 3=x5 at *
  generalize dS l k4=k5 at *
  have PD:=tT (u64 x1) x2 L (1+x3) ah (fun i hi=>o2 _ (by rw [List.getD_eq_getElem?_getD,List.getElem?_eq_getElem hi];exact List.getElem_mem hi))
  have xY:=Gp x4 (20+x5)
  rw [hD,hA]
  generalize fF (u64 x1) x2 L (1+x3)=D at *
  generalize sD (u64 x1) x2 L (1+x3)=SS at *
  generalize qT L (1+x3)=PE at *
  generalize stream (u64 x4+1) 7 (20+x5)=T at *
  have VV:IntKind.i64.wrap (1+(x3:Int))=1+(x3:Int):=by rw [IntKind.wrap_i64];omega
  have VU:IntKind.i64.wrap (20+(x5:Int))=20+(x5:Int):=by rw [IntKind.wrap_i64];omega
  refine zE 0<|a7<|aO<|bn<|ak<|zP 3 [yH [(1,{av:=some (ai ↑x1),ln:=[(1000000000000,1000000000000)],ho:=[(1000000000000,Row.mk 1 false true [AV.sl 1 (ax l),ai ↑k1])]}),(2,yV (aw (u64 (↑x1:Int)))),(4,{av:=some (ai ↑x2),ln:=[(1000000000000,1000000000000)],ho:=[(1000000000000,Row.mk 1 false true [AV.sl 1 (ax l),ai ↑k2])]}),(8,{k:=(af ay L).length}),(9,yV (ai ((↑(af ay L).length:Int)+1))),(10,{av:=some (ai ↑x3),ln:=[(1000000000000,1000000000000)],ho:=[(1000000000000,Row.mk 1 false true [AV.sl 1 (ax l),ai ↑k3])]}),(11,yV (ai ((1:Int)+(↑x3:Int)))),(12,{av:=some (AV.bq [AV.agg [aw D.bR,aw D.peer,AV.own 1 (ag D.box),AV.own 1 (af ay D.aa),AV.own 1 (aj D.au),ai D.need,aw D.target],AV.own 1 (af sM SS),ai PE]),b:=false})],yH [(1,{av:=some (ai ↑x4),ln:=[(1000000000000,1000000000000)],ho:=[(1000000000000,Row.mk 1 false true [AV.sl 1 (ax l),ai ↑k4])]}),(3,{av:=some (ai ↑x5),ln:=[(1000000000000,1000000000000)],ho:=[(1000000000000,Row.mk 1 false true [AV.sl 1 (ax l),ai ↑k5])]}),(4,yV (ai ((20:Int)+(↑x5:Int)))),(5,yV (AV.own 1 (ag T)))],{}] [.ae [8,12,4,3,0,1,6,5] [4,8,70,1000000000000,501061,401061,3]] [yI N1,yB ([AV.sl 1 (ax l),ai ↑k0].length= [AV.sl 1 (ax l),ai ↑k1].length∧0< [AV.sl 1 (ax l),ai ↑k1].length) ⟨rfl,Nat.succ_pos _⟩,yI (a6 ((↑x1:Int))),yI N2,yB ([AV.sl 1 (ax l),ai ↑k1].length= [AV.sl 1 (ax l),ai ↑k2].length∧0< [AV.sl 1 (ax l),ai ↑k2].length) ⟨rfl,Nat.succ_pos _⟩,yR ((af ay L).length),yN ((↑(af ay L).length:Int)+1),yI N3,yB ([AV.sl 1 (ax l),ai ↑k2].length= [AV.sl 1 (ax l),ai ↑k3].length∧0< [AV.sl 1 (ax l),ai ↑k3].length) ⟨rfl,Nat.succ_pos _⟩,yN ((1:Int)+(↑x3:Int)),yI PD,yL 7 7,yI N4,yB ([AV.sl 1 (ax l),ai ↑k3].length= [AV.sl 1 (ax l),ai ↑k4].length∧0< [AV.sl 1 (ax l),ai ↑k4].length) ⟨rfl,Nat.succ_pos _⟩,yI N5,yB ([AV.sl 1 (ax l),ai ↑k4].length= [AV.sl 1 (ax l),ai ↑k5].length∧0< [AV.sl 1 (ax l),ai ↑k5].length) ⟨rfl,Nat.succ_pos _⟩,yN ((20:Int)+(↑x5:Int)),yI xY,yI (aR T),yL 2 7,yL 3 7,yL 7 7]<|zR (zG [.gN 70,.gN 401061,.gN 501061] [yR (Value.int .u64 (wv D.bR)),yR (Value.int .u64 5),yR (ag T),yR (af ay D.aa),yR (aj D.au),yR (Value.int .i64 D.need),yR (Value.int .u64 (wv D.target)),yR [AV.sl 1 (ax l),ai ↑k5]])
end Go.Proofs.YtjgbhhnghedgdaaGreatDoor
