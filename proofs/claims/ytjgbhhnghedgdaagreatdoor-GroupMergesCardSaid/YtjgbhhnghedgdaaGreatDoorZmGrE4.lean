import Derived.Test.YtjgbhhnghedgdaaGreatDoorZmGrE3
set_option linter.all false
namespace Go.Proofs.YtjgbhhnghedgdaaGreatDoor
open Go.RowKit
set_option maxRecDepth 100000
set_option maxHeartbeats 4000000
def ER:List Int:=[1,1,1,2,3,4,4,5,5,0,6]
def rr:List (List UInt8):=[[],[255],[109,49]]
def QF:np:=⟨0,0,[],[],[],0,0⟩
def qA (g:gp) (kd:Int):dP:=⟨g.aA+1,g.head,kd,[],0,0,0,QF,0,0,[]⟩
def zo (l:List Int) (g:gp) (kd:Int) (n k:Nat):dP×Nat :=
 if kd=1 then ({qA g kd with name:=(dJ n).name,kh:=(dJ n).h,kr:=(dJ n).r},k)
 else if kd=2 then ({qA g kd with name:=(dJ n).name},k)
 else if kd=3 then ({qA g kd with br:=gW l k 10},dU l k)
 else if kd=4 then ({qA g kd with dep:=Of l g k},O9 l g k)
 else if kd=5 then (if g.aL.length=0 then ({qA g kd with target:=u64 (gW l k 5)},dU l k) else ({qA g kd with target:=u64 (gW l k 5),bY:=(g.aL.getD (gW l (dU l k) g.aL.length) default).bY},dU l (dU l k)))
 else (qA g kd,k)
def BW (l:List Int) (s:dP×Nat):dP×Nat :=
 if gW l s.2 24=23 then ({s.1 with aA:=s.1.aA+((gW l (dU l s.2) 3:Int)-1)},dU l (dU l s.2))
 else if gW l s.2 24=22 then ({s.1 with prev:=s.1.prev+1},dU l s.2)
 else if gW l s.2 24=21 then ({s.1 with name:=rr.getD (gW l (dU l s.2) 3) []},dU l (dU l s.2))
 else if gW l s.2 24=20 then ({s.1 with target:=7},dU l s.2)
 else if gW l s.2 24=19 then ({s.1 with dep:={s.1.dep with need:=(gW l (dU l s.2) 12:Int)-1}},dU l (dU l s.2))
 else (s.1,dU l s.2)
def Ti (l:List Int) (g:gp) (k:Nat):dP×Nat:=zo l g (ER.getD (gW l k 11) 0) (gW l (dU l k) 10) (dU l (dU l k))
def vt (l:List Int) (g:gp) (k:Nat):dP×Nat:=BW l (Ti l g k)
def Up:List (Nat×Nat):=[(9,1),(10,1),(11,1),(16,4)]
theorem Is {n:Nat} (h:n<11):(au [1,1,1,2,3,4,4,5,5,0,6])[n]?=some (ai (ER.getD n 0)):=by
 rcases n with _|_|_|_|_|_|_|_|_|_|_|n<;>first|rfl|omega
theorem Ib {n:Nat} (h:n<3):(rr.map cQ)[n]?=some (cQ (rr.getD n [])):=by
 rw [List.getElem?_map,List.getD_eq_getElem?_getD,List.getElem?_eq_getElem (by exact h)];rfl
theorem JN {l:List Int} (g:gp) {k:Nat} (h:k≤l.length):O9 l g k≤l.length:=dO (dO (dO (dO (dO (qG g h 10).at_))))
theorem GJ (l:List Int) (k k1 k2 x1 x2:Nat) (kd:Int) (S:dP×Nat) (g:gp) (hl:l.length≤9223372036854775807) (hG:mj g) (hP:S=zo l g kd x2 k2) (b1:x1<11) (b2:x2<10) (a2:k2≤l.length)
  (N1:gm Tryz.prog 24 [.addr 1000000000000 0,ai 11] (z_ l k) (ai x1) (z_ l k1)) (N2:gm Tryz.prog 24 [.addr 1000000000000 0,ai 10] (z_ l k1) (ai x2) (z_ l k2))
  (OT:(au [1,1,1,2,3,4,4,5,5,0,6])[x1]?=some (ai kd)):gm Tryz.prog 16 [.addr 1000000000000 0,.agg (bo g)] (z_ l k) (.agg (aI (BW l S).1)) (z_ l (BW l S).2):=by
 obtain ⟨g1,g2,g3,g4,g5,g6⟩:=hG
 have z7:=fP x2 ah
 have hw:IntKind.i64.wrap (g.aA+1)=g.aA+1:=by rw [IntKind.wrap_i64];omega
 unfold z_ at *
 refine nj Tryz.func16 104<|zq<|zS<|zA 12 [7] [11] [(2,yV (ai (g.aA+1))),(5,yV (AV.arr (au [(1:Int),(1:Int),(1:Int),(2:Int),(3:Int),(4:Int),(4:Int),(5:Int),(5:Int),(0:Int),(6:Int)]))),(7,{av:=some (ai ↑x1),ln:=[(1000000000000,1000000000000)],ho:=[(1000000000000,Row.mk 1 false true [AV.sl 1 (au l),ai ↑k1])]}),(8,{k:=x1}),(9,yV (ai kd))] [yN (g.aA+1),yR [ai 1,ai 1,ai 1,ai 2,ai 3,ai 4,ai 4,ai 5,ai 5,ai 0,ai 6],yI N1,yB ([AV.sl 1 (au l),ai ↑k].length= [AV.sl 1 (au l),ai ↑k1].length∧0< [AV.sl 1 (au l),ai ↑k1].length) ⟨rfl,Nat.succ_pos _⟩,yR (AV.addr 3 0),yR (ai g.aA),yR (ai (g.aA+1)),yN (g.aA+1),yR (AV.addr 3 1),yR (aw g.head),yR (AV.sl 1 (au [(1:Int),(1:Int),(1:Int),(2:Int),(3:Int),(4:Int),(4:Int),(5:Int),(5:Int),(0:Int),(6:Int)])),yR [ai 1,ai 1,ai 1,ai 2,ai 3,ai 4,ai 4,ai 5,ai 5,ai 0,ai 6],yR (↑x1:Int),yI b1,yI OT,yL 17 17]<|ak<|bf.o7 (bU.Nd 5 Up bt)<|zP 1 [yH [(1,{av:=some (ai ↑x2),ln:=[(1000000000000,1000000000000)],ho:=[(1000000000000,Row.mk 1 false true [AV.sl 1 (au l),ai ↑k2])]}),(2,yV (AV.agg (aG (dJ x2))))]] [.aa [6,5,4,3,0,1] [6,1000000000000,5,4,3]] [yI N2,yB ([AV.sl 1 (au l),ai ↑k1].length= [AV.sl 1 (au l),ai ↑k2].length∧0< [AV.sl 1 (au l),ai ↑k2].length) ⟨rfl,Nat.succ_pos _⟩,yI z7,yL 4 4] (bf.nJ (fun (u:Unit)=>(⟨[(6,AV.addr 6 0),(5,AV.addr 5 0),(4,AV.addr 4 0),(3,AV.addr 3 0),(0,AV.addr 1000000000000 0),(1,AV.agg (bo g))],[(6,⟨1,false,true,(aG (dJ x2))⟩),(4,⟨1,false,true,[ai 0,cN,ai 0,AV.val (Value.string (ByteArray.mk #[])),ai 0,cN,ai 0,cN,cN,AV.nil,AV.nil,AV.nil,ai 0,cN,cN,cN,AV.nil]⟩),(3,⟨1,false,true,List.map (aB 6) (List.map (aB 4) (List.map (aB 3) (bo g)))⟩),(5,⟨1,false,true,aI S.1⟩),(1000000000000,⟨1,false,true,[.sl 1 (au l),ai S.2]⟩)]⟩:AS)) (fun u=>(S.2≤l.length∧S.1.aA=g.aA+1)) bt ?_ ?_)
 ·by_cases c1:kd=1
  ·have hS:S=({qA g kd with name:=(dJ x2).name,kh:=(dJ x2).h,kr:=(dJ x2).r},k2):=hP.trans (if_pos c1)
   clear hP;subst hS
   refine zq<|zB 0<|zP 1 [{}] [.aa [23,22,6,5,4,3,0,1] [6,1000000000000,5,4,3]] []<|dm 23 (kd == (1:Int)) eg<|wz 6 [5] [] [yL 4 17,yR (AV.addr 6 1),yR (AV.agg [ai ((dJ x2).h),aw ((dJ x2).r)]),yL 6 17]<|aM<|ak (⟨(),⟨a2,rfl⟩,(zW [.aa [6,5,4,3,0,1] [6,4,3,5,1000000000000]])⟩)
  by_cases c2:kd=2
  ·have hS:S=({qA g kd with name:=(dJ x2).name},k2):=by rw [hP];unfold zo;rw [if_neg c1,if_pos c2]
   clear hP;subst hS
   refine zq<|zB 0<|zP 1 [{}] [.aa [23,22,6,5,4,3,0,1] [6,1000000000000,5,4,3]] []<|bj 23 (kd == (1:Int)) bD<|zq<|dm 31 (kd == (2:Int)) eg<|zX {} [yL 4 17]<|aM<|ak (⟨(),⟨a2,rfl⟩,(zW [.aa [6,5,4,3,0,1] [6,4,3,5,1000000000000]])⟩)
  by_cases c3:kd=3
  ·obtain ⟨x3,G9⟩:∃x,x=gW l k2 10:=⟨_,rfl⟩
   obtain ⟨k3,Bs⟩:∃x,x=dU l k2:=⟨_,rfl⟩
   have N3:=dF l k2 10 a2 hl (by decide) (by decide)
   have a3:=dO a2
   have hS:S=({qA g kd with br:=gW l k2 10},dU l k2):=by rw [hP];unfold zo;rw [if_neg c1,if_neg c2,if_pos c3]
   rw [←G9,←Bs] at hS
   rw [←G9,←Bs] at N3
   rw [←Bs] at a3
   clear hP G9 Bs;subst hS
   refine zq<|zB 0<|zP 1 [{}] [.aa [23,22,6,5,4,3,0,1] [6,1000000000000,5,4,3]] []<|bj 23 (kd == (1:Int)) bD<|zq<|bj 31 (kd == (2:Int)) bD<|zq<|dm 36 (kd == (3:Int)) eg<|zX (yH [(1,{av:=some (ai ↑x3),ln:=[(1000000000000,1000000000000)],ho:=[(1000000000000,Row.mk 1 false true [AV.sl 1 (au l),ai ↑k3])]})]) [yI N3,yB ([AV.sl 1 (au l),ai ↑k2].length= [AV.sl 1 (au l),ai ↑k3].length∧0< [AV.sl 1 (au l),ai ↑k3].length) ⟨rfl,Nat.succ_pos _⟩,yL 7 17]<|aM<|ak (⟨(),⟨a3,rfl⟩,(zW [.aa [6,5,4,3,0,1] [6,4,3,5,1000000000000]])⟩)
  by_cases c4:kd=4
  ·have N3:=zu l k2 g a2 hl g3
   unfold z_ at N3
   have a3:=JN g a2
   have hS:S=({qA g kd with dep:=Of l g k2},O9 l g k2):=by rw [hP];unfold zo;rw [if_neg c1,if_neg c2,if_neg c3,if_pos c4]
   obtain ⟨D,hD⟩:∃x,x=Of l g k2:=⟨_,rfl⟩
   obtain ⟨k3,Bs⟩:∃x,x=O9 l g k2:=⟨_,rfl⟩
   rw [←hD,←Bs] at hS
   rw [←hD,←Bs] at N3
   rw [←Bs] at a3
   clear hP hD Bs;subst hS
   refine zq<|zB 0<|zP 1 [{}] [.aa [23,22,6,5,4,3,0,1] [6,1000000000000,5,4,3]] []<|bj 23 (kd == (1:Int)) bD<|zq<|bj 31 (kd == (2:Int)) bD<|zq<|bj 36 (kd == (3:Int)) bD<|zP 1 [{}] [.aa [41,36,31,32,23,22,6,5,4,3,0,1] [6,1000000000000,5,4,3]] []<|dm 41 (kd == (4:Int)) eg<|zX (yH [(2,{av:=some (AV.agg (a_ D)),ln:=[(1000000000000,1000000000000)],ho:=[(1000000000000,Row.mk 1 false true [AV.sl 1 (au l),ai ↑k3])]})]) [yI N3,yB ([AV.sl 1 (au l),ai ↑k2].length= [AV.sl 1 (au l),ai ↑k3].length∧0< [AV.sl 1 (au l),ai ↑k3].length) ⟨rfl,Nat.succ_pos _⟩,yL 14 17]<|aM<|ak (⟨(),⟨a3,rfl⟩,(zW [.aa [6,5,4,3,0,1] [6,4,3,5,1000000000000]])⟩)
  by_cases c5:kd=5
  ·obtain ⟨x3,G9⟩:∃x,x=gW l k2 5:=⟨_,rfl⟩
   obtain ⟨k3,Bs⟩:∃x,x=dU l k2:=⟨_,rfl⟩
   have N3:=dF l k2 5 a2 hl (by decide) (by decide)
   have a3:=dO a2
   have hS:S=(if g.aL.length=0 then ({qA g kd with target:=u64 (gW l k2 5)},dU l k2) else ({qA g kd with target:=u64 (gW l k2 5),bY:=(g.aL.getD (gW l (dU l k2) g.aL.length) default).bY},dU l (dU l k2))):=by rw [hP];unfold zo;rw [if_neg c1,if_neg c2,if_neg c3,if_neg c4,if_pos c5]
   rw [←G9,←Bs] at hS
   rw [←G9,←Bs] at N3
   rw [←Bs] at a3
   have qQ:(ae a_ g.aL).length=g.aL.length*7:=aE (e:=7) (fun _=>rfl) ..
   by_cases c6:g.aL.length=0
   ·rw [if_pos c6] at hS
    clear hP G9 Bs;subst hS
    refine zq<|zB 0<|zP 1 [{}] [.aa [23,22,6,5,4,3,0,1] [6,1000000000000,5,4,3]] []<|bj 23 (kd == (1:Int)) bD<|zq<|bj 31 (kd == (2:Int)) bD<|zq<|bj 36 (kd == (3:Int)) bD<|zP 1 [{}] [.aa [41,36,31,32,23,22,6,5,4,3,0,1] [6,1000000000000,5,4,3]] []<|bj 41 (kd == (4:Int)) bD<|zq<|dm 47 (kd == (5:Int)) eg<|zP 2 [yH [(1,{av:=some (ai ↑x3),ln:=[(1000000000000,1000000000000)],ho:=[(1000000000000,Row.mk 1 false true [AV.sl 1 (au l),ai ↑k3])]}),(2,yV (aw (u64 (↑x3:Int))))],yH [(2,{k:=g.aL.length})]] [.aa [56,47,41,36,31,32,23,22,6,5,4,3,0,1] [5,1000000000000,6,4,3]] [yI N3,yB ([AV.sl 1 (au l),ai ↑k2].length= [AV.sl 1 (au l),ai ↑k3].length∧0< [AV.sl 1 (au l),ai ↑k3].length) ⟨rfl,Nat.succ_pos _⟩,yI (ba ((↑x3:Int))),yL 16 17,yI qQ]<|dq 56 ((↑g.aL.length:Int)>0)<|zK<|aM<|ak (⟨(),⟨a3,rfl⟩,(zW [.aa [6,5,4,3,0,1] [6,4,3,5,1000000000000]])⟩)
   ·rw [if_neg c6] at hS
    have N4:=dF l k3 g.aL.length a3 hl ah ah
    have a4:=dO a3
    have b4:=lM l k3 (n:=g.aL.length) ah
    obtain ⟨x4,yw⟩:∃x,x=gW l k3 g.aL.length:=⟨_,rfl⟩
    obtain ⟨k4,Br⟩:∃x,x=dU l k3:=⟨_,rfl⟩
    rw [←yw,←Br] at hS
    rw [←yw,←Br] at N4
    rw [←Br] at a4
    rw [←yw] at b4
    have gh:=zt (l:=g.aL) (i:=x4) ah
    clear hP G9 Bs yw Br;subst hS
    refine zq<|zB 0<|zP 1 [{}] [.aa [23,22,6,5,4,3,0,1] [6,1000000000000,5,4,3]] []<|bj 23 (kd == (1:Int)) bD<|zq<|bj 31 (kd == (2:Int)) bD<|zq<|bj 36 (kd == (3:Int)) bD<|zP 1 [{}] [.aa [41,36,31,32,23,22,6,5,4,3,0,1] [6,1000000000000,5,4,3]] []<|bj 41 (kd == (4:Int)) bD<|zq<|dm 47 (kd == (5:Int)) eg<|zP 2 [yH [(1,{av:=some (ai ↑x3),ln:=[(1000000000000,1000000000000)],ho:=[(1000000000000,Row.mk 1 false true [AV.sl 1 (au l),ai ↑k3])]}),(2,yV (aw (u64 (↑x3:Int))))],yH [(2,{k:=g.aL.length})]] [.aa [56,47,41,36,31,32,23,22,6,5,4,3,0,1] [5,1000000000000,6,4,3]] [yI N3,yB ([AV.sl 1 (au l),ai ↑k2].length= [AV.sl 1 (au l),ai ↑k3].length∧0< [AV.sl 1 (au l),ai ↑k3].length) ⟨rfl,Nat.succ_pos _⟩,yI (ba ((↑x3:Int))),yL 16 17,yI qQ]<|gN 56 ((↑g.aL.length:Int)>0)<|wz 7 [6] [(5,{k:=g.aL.length}),(6,{av:=some (ai ↑x4),ln:=[(1000000000000,1000000000000)],ho:=[(1000000000000,Row.mk 1 false true [AV.sl 1 (au l),ai ↑k4])]}),(7,{k:=x4}),(9,yV (aw ((g.aL.getD x4 default).bY)))] [yI qQ,yI N4,yB ([AV.sl 1 (au l),ai ↑k3].length= [AV.sl 1 (au l),ai ↑k4].length∧0< [AV.sl 1 (au l),ai ↑k4].length) ⟨rfl,Nat.succ_pos _⟩,yR (AV.addr 3 4),yR (AV.sl 7 (ae a_ g.aL)),yR (↑x4:Int),yO (x4*7<(ae a_ g.aL).length),yA a_ g.aL x4 0,yL 15 17]<|aM<|ak (⟨(),⟨a4,rfl⟩,(zW [.aa [6,5,4,3,0,1] [6,4,3,5,1000000000000]])⟩)
  ·have hS:S=(qA g kd,k2):=by rw [hP];unfold zo;rw [if_neg c1,if_neg c2,if_neg c3,if_neg c4,if_neg c5]
   clear hP;subst hS
   refine zq<|zB 0<|zP 1 [{}] [.aa [23,22,6,5,4,3,0,1] [6,1000000000000,5,4,3]] []<|bj 23 (kd == (1:Int)) bD<|zq<|bj 31 (kd == (2:Int)) bD<|zq<|bj 36 (kd == (3:Int)) bD<|zP 1 [{}] [.aa [41,36,31,32,23,22,6,5,4,3,0,1] [6,1000000000000,5,4,3]] []<|bj 41 (kd == (4:Int)) bD<|zq<|bj 47 (kd == (5:Int)) bD<|zK<|aM<|ak (⟨(),⟨a2,rfl⟩,(zW [.aa [6,5,4,3,0,1] [6,4,3,5,1000000000000]])⟩)
 intro u hu
 clear hP N1 N2 OT z7
 obtain ⟨e1,k3⟩:=S
 obtain ⟨hu,Vs⟩:=hu
 simp only at hu Vs ⊢
 obtain ⟨x3,G9⟩:∃x,x=gW l k3 24:=⟨_,rfl⟩
 obtain ⟨k4,Br⟩:∃x,x=dU l k3:=⟨_,rfl⟩
 have N3:=dF l k3 24 hu hl (by decide) (by decide)
 have a4:=dO hu
 rw [←G9,←Br] at N3
 rw [←Br] at a4
 have hE:BW l (e1,k3)=if x3=23 then ({e1 with aA:=e1.aA+((gW l k4 3:Int)-1)},dU l k4) else if x3=22 then ({e1 with prev:=e1.prev+1},k4) else if x3=21 then ({e1 with name:=rr.getD (gW l k4 3) []},dU l k4) else if x3=20 then ({e1 with target:=7},k4) else if x3=19 then ({e1 with dep:={e1.dep with need:=(gW l k4 12:Int)-1}},dU l k4) else (e1,k4):=by unfold BW;rw [G9,Br]
 clear G9 Br
 generalize hT:BW l (e1,k3)=T at *
 obtain ⟨e2,k5⟩:=T
 simp only
 clear hT
 refine bf.nJ (fun (u:Unit)=>(⟨[(6,AV.addr 6 0),(5,AV.addr 5 0),(4,AV.addr 4 0),(3,AV.addr 3 0),(0,AV.addr 1000000000000 0),(1,AV.agg (bo g))],[(6,⟨1,false,true,(aG (dJ x2))⟩),(4,⟨1,false,true,[ai 0,cN,ai 0,AV.val (Value.string (ByteArray.mk #[])),ai 0,cN,ai 0,cN,cN,AV.nil,AV.nil,AV.nil,ai 0,cN,cN,cN,AV.nil]⟩),(3,⟨1,false,true,List.map (aB 6) (List.map (aB 4) (List.map (aB 3) (bo g)))⟩),(5,⟨1,false,true,aI e2⟩),(1000000000000,⟨1,false,true,[.sl 1 (au l),ai k5]⟩)]⟩:AS)) (fun u=>(True)) bt ?_ ?_
 ·by_cases d1:x3=23
  ·rw [if_pos d1] at hE
   obtain ⟨x4,yw⟩:∃x,x=gW l k4 3:=⟨_,rfl⟩
   obtain ⟨k6,Gi⟩:∃x,x=dU l k4:=⟨_,rfl⟩
   have N4:=dF l k4 3 a4 hl (by decide) (by decide)
   have b4:=lM l k4 (n:=3) (by decide)
   rw [←yw,←Gi] at hE
   rw [←yw,←Gi] at N4
   rw [←yw] at b4
   clear yw Gi
   injection hE with h1 h2
   subst h1 h2
   have Uw:IntKind.i64.wrap ((x4:Int)-1)=(x4:Int)-1:=by rw [IntKind.wrap_i64];omega
   have Wg:IntKind.i64.wrap (e1.aA+((x4:Int)-1))=e1.aA+((x4:Int)-1):=by rw [IntKind.wrap_i64];omega
   refine zQ 1 [yH [(1,{av:=some (ai ↑x3),ln:=[(1000000000000,1000000000000)],ho:=[(1000000000000,Row.mk 1 false true [AV.sl 1 (au l),ai ↑k4])]})]] [yI N3,yB ([AV.sl 1 (au l),ai ↑k3].length= [AV.sl 1 (au l),ai ↑k4].length∧0< [AV.sl 1 (au l),ai ↑k4].length) ⟨rfl,Nat.succ_pos _⟩]<|zB 1<|zP 1 [{}] [.aa [70,69,6,5,4,3,0,1] [1000000000000,6,4,3,5]] []<|dm 70 ((↑x3:Int) == (23:Int)) eg<|wz 5 [3] [(3,{av:=some (ai ↑x4),ln:=[(1000000000000,1000000000000)],ho:=[(1000000000000,Row.mk 1 false true [AV.sl 1 (au l),ai ↑k5])]}),(4,yV (ai ((↑x4:Int)-1))),(5,yV (ai (e1.aA+((↑x4:Int)-1))))] [yI N4,yB ([AV.sl 1 (au l),ai ↑k4].length= [AV.sl 1 (au l),ai ↑k5].length∧0< [AV.sl 1 (au l),ai ↑k5].length) ⟨rfl,Nat.succ_pos _⟩,yR (AV.addr 5 0),yR (ai e1.aA),yN ((↑x4:Int)-1),yN (e1.aA+((↑x4:Int)-1)),yL 1 17]<|aM<|ak (⟨(),trivial,(zW [.aa [6,5,4,3,0,1] [6,4,3,5,1000000000000]])⟩)
  rw [if_neg d1] at hE
  by_cases d2:x3=22
  ·rw [if_pos d2] at hE
   injection hE with h1 h2
   subst h1 h2
   refine zQ 1 [yH [(1,{av:=some (ai ↑x3),ln:=[(1000000000000,1000000000000)],ho:=[(1000000000000,Row.mk 1 false true [AV.sl 1 (au l),ai ↑k5])]})]] [yI N3,yB ([AV.sl 1 (au l),ai ↑k3].length= [AV.sl 1 (au l),ai ↑k5].length∧0< [AV.sl 1 (au l),ai ↑k5].length) ⟨rfl,Nat.succ_pos _⟩]<|zB 1<|zP 1 [{}] [.aa [70,69,6,5,4,3,0,1] [1000000000000,6,4,3,5]] []<|bj 70 ((↑x3:Int) == (23:Int)) bD<|zq<|dm 79 ((↑x3:Int) == (22:Int)) eg<|zX (yH [(2,yV (aw (e1.prev+1)))]) [yR (aw (e1.prev+1)),yL 2 17]<|aM<|ak (⟨(),trivial,(zW [.aa [6,5,4,3,0,1] [6,4,3,5,1000000000000]])⟩)
  rw [if_neg d2] at hE
  by_cases d3:x3=21
  ·rw [if_pos d3] at hE
   obtain ⟨x4,yw⟩:∃x,x=gW l k4 3:=⟨_,rfl⟩
   obtain ⟨k6,Gi⟩:∃x,x=dU l k4:=⟨_,rfl⟩
   have N4:=dF l k4 3 a4 hl (by decide) (by decide)
   have b4:=lM l k4 (n:=3) (by decide)
   rw [←yw,←Gi] at hE
   rw [←yw,←Gi] at N4
   rw [←yw] at b4
   have Lj:=Ib (n:=x4) ah
   generalize rr.getD x4 []=UI at *
   clear yw Gi
   injection hE with h1 h2
   subst h1 h2
   refine zQ 1 [yH [(1,{av:=some (ai ↑x3),ln:=[(1000000000000,1000000000000)],ho:=[(1000000000000,Row.mk 1 false true [AV.sl 1 (au l),ai ↑k4])]})]] [yI N3,yB ([AV.sl 1 (au l),ai ↑k3].length= [AV.sl 1 (au l),ai ↑k4].length∧0< [AV.sl 1 (au l),ai ↑k4].length) ⟨rfl,Nat.succ_pos _⟩]<|zB 1<|zP 1 [{}] [.aa [70,69,6,5,4,3,0,1] [1000000000000,6,4,3,5]] []<|bj 70 ((↑x3:Int) == (23:Int)) bD<|zq<|bj 79 ((↑x3:Int) == (22:Int)) bD<|zP 1 [{}] [.aa [85,79,70,69,6,5,4,3,0,1] [1000000000000,6,4,3,5]] []<|dm 85 ((↑x3:Int) == (21:Int)) eg<|zX (yH [(2,{av:=some (ai ↑x4),ln:=[(1000000000000,1000000000000)],ho:=[(1000000000000,Row.mk 1 false true [AV.sl 1 (au l),ai ↑k5])]}),(3,{k:=x4}),(4,yV (cQ UI))]) [yI N4,yB ([AV.sl 1 (au l),ai ↑k4].length= [AV.sl 1 (au l),ai ↑k5].length∧0< [AV.sl 1 (au l),ai ↑k5].length) ⟨rfl,Nat.succ_pos _⟩,yR (↑x4:Int),yO (x4<3),yI Lj,yL 4 17]<|aM<|ak (⟨(),trivial,(zW [.aa [6,5,4,3,0,1] [6,4,3,5,1000000000000]])⟩)
  rw [if_neg d3] at hE
  by_cases d4:x3=20
  ·rw [if_pos d4] at hE
   injection hE with h1 h2
   subst h1 h2
   refine zQ 1 [yH [(1,{av:=some (ai ↑x3),ln:=[(1000000000000,1000000000000)],ho:=[(1000000000000,Row.mk 1 false true [AV.sl 1 (au l),ai ↑k5])]})]] [yI N3,yB ([AV.sl 1 (au l),ai ↑k3].length= [AV.sl 1 (au l),ai ↑k5].length∧0< [AV.sl 1 (au l),ai ↑k5].length) ⟨rfl,Nat.succ_pos _⟩]<|zB 1<|zP 1 [{}] [.aa [70,69,6,5,4,3,0,1] [1000000000000,6,4,3,5]] []<|bj 70 ((↑x3:Int) == (23:Int)) bD<|zq<|bj 79 ((↑x3:Int) == (22:Int)) bD<|zP 1 [{}] [.aa [85,79,70,69,6,5,4,3,0,1] [1000000000000,6,4,3,5]] []<|bj 85 ((↑x3:Int) == (21:Int)) bD<|zq<|dm 93 ((↑x3:Int) == (20:Int)) eg<|zX {} [yL 16 17]<|aM<|ak (⟨(),trivial,(zW [.aa [6,5,4,3,0,1] [6,4,3,5,1000000000000]])⟩)
  rw [if_neg d4] at hE
  by_cases d5:x3=19
  ·rw [if_pos d5] at hE
   obtain ⟨x4,yw⟩:∃x,x=gW l k4 12:=⟨_,rfl⟩
   obtain ⟨k6,Gi⟩:∃x,x=dU l k4:=⟨_,rfl⟩
   have N4:=dF l k4 12 a4 hl (by decide) (by decide)
   have b4:=lM l k4 (n:=12) (by decide)
   rw [←yw,←Gi] at hE
   rw [←yw,←Gi] at N4
   rw [←yw] at b4
   clear yw Gi
   injection hE with h1 h2
   subst h1 h2
   have Uw:IntKind.i64.wrap ((x4:Int)-1)=(x4:Int)-1:=by rw [IntKind.wrap_i64];omega
   refine zQ 1 [yH [(1,{av:=some (ai ↑x3),ln:=[(1000000000000,1000000000000)],ho:=[(1000000000000,Row.mk 1 false true [AV.sl 1 (au l),ai ↑k4])]})]] [yI N3,yB ([AV.sl 1 (au l),ai ↑k3].length= [AV.sl 1 (au l),ai ↑k4].length∧0< [AV.sl 1 (au l),ai ↑k4].length) ⟨rfl,Nat.succ_pos _⟩]<|zB 1<|zP 1 [{}] [.aa [70,69,6,5,4,3,0,1] [1000000000000,6,4,3,5]] []<|bj 70 ((↑x3:Int) == (23:Int)) bD<|zq<|bj 79 ((↑x3:Int) == (22:Int)) bD<|zP 1 [{}] [.aa [85,79,70,69,6,5,4,3,0,1] [1000000000000,6,4,3,5]] []<|bj 85 ((↑x3:Int) == (21:Int)) bD<|zq<|bj 93 ((↑x3:Int) == (20:Int)) bD<|zP 1 [{}] [.aa [96,93,85,79,70,69,6,5,4,3,0,1] [1000000000000,6,4,3,5]] []<|dm 96 ((↑x3:Int) == (19:Int)) eg<|zX (yH [(1,{av:=some (ai ↑x4),ln:=[(1000000000000,1000000000000)],ho:=[(1000000000000,Row.mk 1 false true [AV.sl 1 (au l),ai ↑k5])]}),(2,yV (ai ((↑x4:Int)-1)))]) [yI N4,yB ([AV.sl 1 (au l),ai ↑k4].length= [AV.sl 1 (au l),ai ↑k5].length∧0< [AV.sl 1 (au l),ai ↑k5].length) ⟨rfl,Nat.succ_pos _⟩,yN ((↑x4:Int)-1),yL 13 17]<|aM<|ak (⟨(),trivial,(zW [.aa [6,5,4,3,0,1] [6,4,3,5,1000000000000]])⟩)
  ·rw [if_neg d5] at hE
   injection hE with h1 h2
   subst h1 h2
   refine zQ 1 [yH [(1,{av:=some (ai ↑x3),ln:=[(1000000000000,1000000000000)],ho:=[(1000000000000,Row.mk 1 false true [AV.sl 1 (au l),ai ↑k5])]})]] [yI N3,yB ([AV.sl 1 (au l),ai ↑k3].length= [AV.sl 1 (au l),ai ↑k5].length∧0< [AV.sl 1 (au l),ai ↑k5].length) ⟨rfl,Nat.succ_pos _⟩]<|zB 1<|zP 1 [{}] [.aa [70,69,6,5,4,3,0,1] [1000000000000,6,4,3,5]] []<|bj 70 ((↑x3:Int) == (23:Int)) bD<|zq<|bj 79 ((↑x3:Int) == (22:Int)) bD<|zP 1 [{}] [.aa [85,79,70,69,6,5,4,3,0,1] [1000000000000,6,4,3,5]] []<|bj 85 ((↑x3:Int) == (21:Int)) bD<|zq<|bj 93 ((↑x3:Int) == (20:Int)) bD<|zP 1 [{}] [.aa [96,93,85,79,70,69,6,5,4,3,0,1] [1000000000000,6,4,3,5]] []<|bj 96 ((↑x3:Int) == (19:Int)) bD<|zK<|aM<|ak (⟨(),trivial,(zW [.aa [6,5,4,3,0,1] [6,4,3,5,1000000000000]])⟩)
 intro u hu
 refine zP 1 [{}] [.aa [6,5,4,3,0,1] [4,6,3,5,1000000000000]] [yL 17 17]<|zR (zG [] [yR (Value.int .i64 e2.aA),yR (Value.int .u64 (wv e2.prev)),yR (Value.int .i64 e2.kind),yR (Value.string (ByteArray.mk e2.name.toArray)),yR (Value.int .i64 e2.kh),yR (Value.int .u64 (wv e2.kr)),yR (Value.int .i64 e2.br),yR (Value.int .u64 (wv e2.dep.bY)),yR (Value.int .u64 (wv e2.dep.peer)),yR (ag e2.dep.box),yR (ae ax e2.dep.af),yR (aj e2.dep.ay),yR (Value.int .i64 e2.dep.need),yR (Value.int .u64 (wv e2.dep.target)),yR (Value.int .u64 (wv e2.bY)),yR (Value.int .u64 (wv e2.target)),yR (ae aU e2.aq),yR [AV.sl 1 (au l),ai ↑k5]])
end Go.Proofs.YtjgbhhnghedgdaaGreatDoor
