import Derived.Test.YtjgbhhnghedgdaaGreatDoorZaGrE3
set_option linter.all false
namespace Go.Proofs.YtjgbhhnghedgdaaGreatDoor
open Go.RowKit
set_option maxRecDepth 100000
set_option maxHeartbeats 4000000
def El:List Int:=[1,1,1,2,3,4,4,5,5,0,6]
def q6:List (List UInt8):=[[],[255],[109,49]]
def Qm:m0:=⟨0,0,[],[],[],0,0⟩
def qk (g:gK) (kd:Int):eF:=⟨g.aB+1,g.head,kd,[],0,0,0,Qm,0,0,[]⟩
def yD (l:List Int) (g:gK) (kd:Int) (n k:Nat):eF×Nat :=
 if kd=1 then ({qk g kd with name:=(dK n).name,kh:=(dK n).h,kr:=(dK n).r},k)
 else if kd=2 then ({qk g kd with name:=(dK n).name},k)
 else if kd=3 then ({qk g kd with bt:=gV l k 10},dS l k)
 else if kd=4 then ({qk g kd with dep:=NK l g k},OJ l g k)
 else if kd=5 then (if g.aK.length=0 then ({qk g kd with target:=u64 (gV l k 5)},dS l k) else ({qk g kd with target:=u64 (gV l k 5),bR:=(g.aK.getD (gV l (dS l k) g.aK.length) default).bR},dS l (dS l k)))
 else (qk g kd,k)
def Bk (l:List Int) (s:eF×Nat):eF×Nat :=
 if gV l s.2 24=23 then ({s.1 with aB:=s.1.aB+((gV l (dS l s.2) 3:Int)-1)},dS l (dS l s.2))
 else if gV l s.2 24=22 then ({s.1 with prev:=s.1.prev+1},dS l s.2)
 else if gV l s.2 24=21 then ({s.1 with name:=q6.getD (gV l (dS l s.2) 3) []},dS l (dS l s.2))
 else if gV l s.2 24=20 then ({s.1 with target:=7},dS l s.2)
 else if gV l s.2 24=19 then ({s.1 with dep:={s.1.dep with need:=(gV l (dS l s.2) 12:Int)-1}},dS l (dS l s.2))
 else (s.1,dS l s.2)
def SM (l:List Int) (g:gK) (k:Nat):eF×Nat:=yD l g (El.getD (gV l k 11) 0) (gV l (dS l k) 10) (dS l (dS l k))
def va (l:List Int) (g:gK) (k:Nat):eF×Nat:=Bk l (SM l g k)
def TZ:List (Nat×Nat):=[(9,1),(10,1),(11,1),(16,4)]
theorem HY {n:Nat} (h:n<11):(ax [1,1,1,2,3,4,4,5,5,0,6])[n]?=some (ai (El.getD n 0)):=by
 rcases n with _|_|_|_|_|_|_|_|_|_|_|n<;>first|rfl|omega
theorem HJ {n:Nat} (h:n<3):(q6.map db)[n]?=some (db (q6.getD n [])):=by
 rw [List.getElem?_map,List.getD_eq_getElem?_getD,List.getElem?_eq_getElem (by exact h)];rfl
theorem Jm {l:List Int} (g:gK) {k:Nat} (h:k≤l.length):OJ l g k≤l.length:=dN (dN (dN (dN (dN (qq g h 10).at_))))
theorem Gd (l:List Int) (k k1 k2 x1 x2:Nat) (kd:Int) (S:eF×Nat) (g:gK) (hl:l.length≤9223372036854775807) (hG:nT g) (hP:S=yD l g kd x2 k2) (b1:x1<11) (b2:x2<10) (a2:k2≤l.length)
  (N1:ga Tryz.prog 24 [.addr 1000000000000 0,ai 11] (zg l k) (ai x1) (zg l k1)) (N2:ga Tryz.prog 24 [.addr 1000000000000 0,ai 10] (zg l k1) (ai x2) (zg l k2))
  (Ou:(ax [1,1,1,2,3,4,4,5,5,0,6])[x1]?=some (ai kd)):ga Tryz.prog 16 [.addr 1000000000000 0,.agg (bB g)] (zg l k) (.agg (aT (Bk l S).1)) (zg l (Bk l S).2):=by
 obtain ⟨g1,g2,g3,g4,g5,g6⟩:=hG
 have zd:=gr x2 ah
 have hw:IntKind.i64.wrap (g.aB+1)=g.aB+1:=by rw [IntKind.wrap_i64];omega
 unfold zg at *
 refine m5 Tryz.func16 104<|zq<|zS<|zA 12 [7] [11] [(2,yV (ai (g.aB+1))),(5,yV (AV.arr (ax [(1:Int),(1:Int),(1:Int),(2:Int),(3:Int),(4:Int),(4:Int),(5:Int),(5:Int),(0:Int),(6:Int)]))),(7,{av:=some (ai ↑x1),ln:=[(1000000000000,1000000000000)],ho:=[(1000000000000,Row.mk 1 false true [AV.sl 1 (ax l),ai ↑k1])]}),(8,{k:=x1}),(9,yV (ai kd))] [yN (g.aB+1),yR [ai 1,ai 1,ai 1,ai 2,ai 3,ai 4,ai 4,ai 5,ai 5,ai 0,ai 6],yI N1,yB ([AV.sl 1 (ax l),ai ↑k].length= [AV.sl 1 (ax l),ai ↑k1].length∧0< [AV.sl 1 (ax l),ai ↑k1].length) ⟨rfl,Nat.succ_pos _⟩,yR (AV.addr 3 0),yR (ai g.aB),yR (ai (g.aB+1)),yN (g.aB+1),yR (AV.addr 3 1),yR (aw g.head),yR (AV.sl 1 (ax [(1:Int),(1:Int),(1:Int),(2:Int),(3:Int),(4:Int),(4:Int),(5:Int),(5:Int),(0:Int),(6:Int)])),yR [ai 1,ai 1,ai 1,ai 2,ai 3,ai 4,ai 4,ai 5,ai 5,ai 0,ai 6],yR (↑x1:Int),yI b1,yI Ou,yL 17 17]<|ak<|bf.oR (bS.MR 5 TZ bh)<|zP 1 [yH [(1,{av:=some (ai ↑x2),ln:=[(1000000000000,1000000000000)],ho:=[(1000000000000,Row.mk 1 false true [AV.sl 1 (ax l),ai ↑k2])]}),(2,yV (AV.agg (aH (dK x2))))]] [.ae [6,5,4,3,0,1] [6,1000000000000,5,4,3]] [yI N2,yB ([AV.sl 1 (ax l),ai ↑k1].length= [AV.sl 1 (ax l),ai ↑k2].length∧0< [AV.sl 1 (ax l),ai ↑k2].length) ⟨rfl,Nat.succ_pos _⟩,yI zd,yL 4 4] (bf.oN (fun (u:Unit)=>(⟨[(6,AV.addr 6 0),(5,AV.addr 5 0),(4,AV.addr 4 0),(3,AV.addr 3 0),(0,AV.addr 1000000000000 0),(1,AV.agg (bB g))],[(6,⟨1,false,true,(aH (dK x2))⟩),(4,⟨1,false,true,[ai 0,cO,ai 0,AV.val (Value.string (ByteArray.mk #[])),ai 0,cO,ai 0,cO,cO,AV.nil,AV.nil,AV.nil,ai 0,cO,cO,cO,AV.nil]⟩),(3,⟨1,false,true,List.map (aD 6) (List.map (aD 4) (List.map (aD 3) (bB g)))⟩),(5,⟨1,false,true,aT S.1⟩),(1000000000000,⟨1,false,true,[.sl 1 (ax l),ai S.2]⟩)]⟩:AS)) (fun u=>(S.2≤l.length∧S.1.aB=g.aB+1)) bh ?_ ?_)
 ·by_cases c1:kd=1
  ·have hS:S=({qk g kd with name:=(dK x2).name,kh:=(dK x2).h,kr:=(dK x2).r},k2):=hP.trans (if_pos c1)
   clear hP;subst hS
   refine zq<|zB 0<|zP 1 [{}] [.ae [23,22,6,5,4,3,0,1] [6,1000000000000,5,4,3]] []<|du 23 (kd == (1:Int)) fb<|y9 6 [5] [] [yL 4 17,yR (AV.addr 6 1),yR (AV.agg [ai ((dK x2).h),aw ((dK x2).r)]),yL 6 17]<|aM<|ak (⟨(),⟨a2,rfl⟩,(zW [.ae [6,5,4,3,0,1] [6,4,3,5,1000000000000]])⟩)
  by_cases c2:kd=2
  ·have hS:S=({qk g kd with name:=(dK x2).name},k2):=by rw [hP];unfold yD;rw [if_neg c1,if_pos c2]
   clear hP;subst hS
   refine zq<|zB 0<|zP 1 [{}] [.ae [23,22,6,5,4,3,0,1] [6,1000000000000,5,4,3]] []<|bj 23 (kd == (1:Int)) bE<|zq<|du 31 (kd == (2:Int)) fb<|zX {} [yL 4 17]<|aM<|ak (⟨(),⟨a2,rfl⟩,(zW [.ae [6,5,4,3,0,1] [6,4,3,5,1000000000000]])⟩)
  by_cases c3:kd=3
  ·obtain ⟨x3,Gx⟩:∃x,x=gV l k2 10:=⟨_,rfl⟩
   obtain ⟨k3,Cy⟩:∃x,x=dS l k2:=⟨_,rfl⟩
   have N3:=dE l k2 10 a2 hl (by decide) (by decide)
   have a3:=dN a2
   have hS:S=({qk g kd with bt:=gV l k2 10},dS l k2):=by rw [hP];unfold yD;rw [if_neg c1,if_neg c2,if_pos c3]
   rw [←Gx,←Cy] at hS
   rw [←Gx,←Cy] at N3
   rw [←Cy] at a3
   clear hP Gx Cy;subst hS
   refine zq<|zB 0<|zP 1 [{}] [.ae [23,22,6,5,4,3,0,1] [6,1000000000000,5,4,3]] []<|bj 23 (kd == (1:Int)) bE<|zq<|bj 31 (kd == (2:Int)) bE<|zq<|du 36 (kd == (3:Int)) fb<|zX (yH [(1,{av:=some (ai ↑x3),ln:=[(1000000000000,1000000000000)],ho:=[(1000000000000,Row.mk 1 false true [AV.sl 1 (ax l),ai ↑k3])]})]) [yI N3,yB ([AV.sl 1 (ax l),ai ↑k2].length= [AV.sl 1 (ax l),ai ↑k3].length∧0< [AV.sl 1 (ax l),ai ↑k3].length) ⟨rfl,Nat.succ_pos _⟩,yL 7 17]<|aM<|ak (⟨(),⟨a3,rfl⟩,(zW [.ae [6,5,4,3,0,1] [6,4,3,5,1000000000000]])⟩)
  by_cases c4:kd=4
  ·have N3:=yG l k2 g a2 hl g3
   unfold zg at N3
   have a3:=Jm g a2
   have hS:S=({qk g kd with dep:=NK l g k2},OJ l g k2):=by rw [hP];unfold yD;rw [if_neg c1,if_neg c2,if_neg c3,if_pos c4]
   obtain ⟨D,hD⟩:∃x,x=NK l g k2:=⟨_,rfl⟩
   obtain ⟨k3,Cy⟩:∃x,x=OJ l g k2:=⟨_,rfl⟩
   rw [←hD,←Cy] at hS
   rw [←hD,←Cy] at N3
   rw [←Cy] at a3
   clear hP hD Cy;subst hS
   refine zq<|zB 0<|zP 1 [{}] [.ae [23,22,6,5,4,3,0,1] [6,1000000000000,5,4,3]] []<|bj 23 (kd == (1:Int)) bE<|zq<|bj 31 (kd == (2:Int)) bE<|zq<|bj 36 (kd == (3:Int)) bE<|zP 1 [{}] [.ae [41,36,31,32,23,22,6,5,4,3,0,1] [6,1000000000000,5,4,3]] []<|du 41 (kd == (4:Int)) fb<|zX (yH [(2,{av:=some (AV.agg (bc D)),ln:=[(1000000000000,1000000000000)],ho:=[(1000000000000,Row.mk 1 false true [AV.sl 1 (ax l),ai ↑k3])]})]) [yI N3,yB ([AV.sl 1 (ax l),ai ↑k2].length= [AV.sl 1 (ax l),ai ↑k3].length∧0< [AV.sl 1 (ax l),ai ↑k3].length) ⟨rfl,Nat.succ_pos _⟩,yL 14 17]<|aM<|ak (⟨(),⟨a3,rfl⟩,(zW [.ae [6,5,4,3,0,1] [6,4,3,5,1000000000000]])⟩)
  by_cases c5:kd=5
  ·obtain ⟨x3,Gx⟩:∃x,x=gV l k2 5:=⟨_,rfl⟩
   obtain ⟨k3,Cy⟩:∃x,x=dS l k2:=⟨_,rfl⟩
   have N3:=dE l k2 5 a2 hl (by decide) (by decide)
   have a3:=dN a2
   have hS:S=(if g.aK.length=0 then ({qk g kd with target:=u64 (gV l k2 5)},dS l k2) else ({qk g kd with target:=u64 (gV l k2 5),bR:=(g.aK.getD (gV l (dS l k2) g.aK.length) default).bR},dS l (dS l k2))):=by rw [hP];unfold yD;rw [if_neg c1,if_neg c2,if_neg c3,if_neg c4,if_pos c5]
   rw [←Gx,←Cy] at hS
   rw [←Gx,←Cy] at N3
   rw [←Cy] at a3
   have qD:(af bc g.aK).length=g.aK.length*7:=aF (e:=7) (fun _=>rfl) ..
   by_cases c6:g.aK.length=0
   ·rw [if_pos c6] at hS
    clear hP Gx Cy;subst hS
    refine zq<|zB 0<|zP 1 [{}] [.ae [23,22,6,5,4,3,0,1] [6,1000000000000,5,4,3]] []<|bj 23 (kd == (1:Int)) bE<|zq<|bj 31 (kd == (2:Int)) bE<|zq<|bj 36 (kd == (3:Int)) bE<|zP 1 [{}] [.ae [41,36,31,32,23,22,6,5,4,3,0,1] [6,1000000000000,5,4,3]] []<|bj 41 (kd == (4:Int)) bE<|zq<|du 47 (kd == (5:Int)) fb<|zP 2 [yH [(1,{av:=some (ai ↑x3),ln:=[(1000000000000,1000000000000)],ho:=[(1000000000000,Row.mk 1 false true [AV.sl 1 (ax l),ai ↑k3])]}),(2,yV (aw (u64 (↑x3:Int))))],yH [(2,{k:=g.aK.length})]] [.ae [56,47,41,36,31,32,23,22,6,5,4,3,0,1] [5,1000000000000,6,4,3]] [yI N3,yB ([AV.sl 1 (ax l),ai ↑k2].length= [AV.sl 1 (ax l),ai ↑k3].length∧0< [AV.sl 1 (ax l),ai ↑k3].length) ⟨rfl,Nat.succ_pos _⟩,yI (a6 ((↑x3:Int))),yL 16 17,yI qD]<|dp 56 ((↑g.aK.length:Int)>0)<|zK<|aM<|ak (⟨(),⟨a3,rfl⟩,(zW [.ae [6,5,4,3,0,1] [6,4,3,5,1000000000000]])⟩)
   ·rw [if_neg c6] at hS
    have N4:=dE l k3 g.aK.length a3 hl ah ah
    have a4:=dN a3
    have b4:=lE l k3 (n:=g.aK.length) ah
    obtain ⟨x4,xQ⟩:∃x,x=gV l k3 g.aK.length:=⟨_,rfl⟩
    obtain ⟨k4,AP⟩:∃x,x=dS l k3:=⟨_,rfl⟩
    rw [←xQ,←AP] at hS
    rw [←xQ,←AP] at N4
    rw [←AP] at a4
    rw [←xQ] at b4
    have gh:=yE (l:=g.aK) (i:=x4) ah
    clear hP Gx Cy xQ AP;subst hS
    refine zq<|zB 0<|zP 1 [{}] [.ae [23,22,6,5,4,3,0,1] [6,1000000000000,5,4,3]] []<|bj 23 (kd == (1:Int)) bE<|zq<|bj 31 (kd == (2:Int)) bE<|zq<|bj 36 (kd == (3:Int)) bE<|bf.jW 1 [{}] [.ae [41,36,31,32,23,22,6,5,4,3,0,1] [6,1000000000000,5,4,3]] bh (s':=AS.mk [(41,ao (kd == (4:Int))),(36,ao (kd == (3:Int))),(31,ao (kd == (2:Int))),(32,ao (kd == (2:Int))),(23,ao (kd == (1:Int))),(22,ai kd),(6,AV.addr 6 0),(5,AV.addr 5 0),(4,AV.addr 4 0),(3,AV.addr 3 0),(0,AV.addr 1000000000000 0),(1,AV.agg (bB g))] [(6,Row.mk 1 false true (aH (dK x2))),(1000000000000,Row.mk 1 false true [AV.sl 1 (ax l),ai ↑k2]),(5,Row.mk 1 false true (List.map (aD 6) (JW TZ (B0 (AS.mk [(5,AV.addr 5 0),(7,AV.addr 3 0),(8,ai g.aB),(9,ai (g.aB+1)),(10,AV.addr 3 1),(11,aw g.head),(12,AV.sl 1 (ax [(1:Int),(1:Int),(1:Int),(2:Int),(3:Int),(4:Int),(4:Int),(5:Int),(5:Int),(0:Int),(6:Int)])),(13,AV.addr 1000000000000 0),(14,ai ↑x1),(15,AV.ptr (ax [(1:Int),(1:Int),(1:Int),(2:Int),(3:Int),(4:Int),(4:Int),(5:Int),(5:Int),(0:Int),(6:Int)]) x1),(16,ai kd),(17,AV.agg [ai (g.aB+1),aw g.head,ai kd,AV.val (Value.string (ByteArray.mk #[])),ai 0,cO,ai 0,cO,cO,AV.nil,AV.nil,AV.nil,ai 0,cO,cO,cO,AV.nil]),(4,AV.addr 4 0),(3,AV.addr 3 0),(0,AV.addr 1000000000000 0),(1,AV.agg (bB g))] [(5,Row.mk 1 false true [ai (g.aB+1),aw g.head,ai kd,AV.val (Value.string (ByteArray.mk #[])),ai 0,cO,ai 0,cO,cO,AV.nil,AV.nil,AV.nil,ai 0,cO,cO,cO,AV.nil]),(1000000000000,Row.mk 1 false true [AV.sl 1 (ax l),ai ↑k1]),(4,Row.mk 1 false true [ai 0,cO,ai 0,AV.val (Value.string (ByteArray.mk #[])),ai 0,cO,ai 0,cO,cO,AV.nil,AV.nil,AV.nil,ai 0,cO,cO,cO,AV.nil]),(3,Row.mk 1 false true (List.map (aD 4) (List.map (aD 3) (bB g))))]) 5).cells 0))),(4,Row.mk 1 false true [ai 0,cO,ai 0,AV.val (Value.string (ByteArray.mk #[])),ai 0,cO,ai 0,cO,cO,AV.nil,AV.nil,AV.nil,ai 0,cO,cO,cO,AV.nil]),(3,Row.mk 1 false true (List.map (aD 6) (List.map (aD 4) (List.map (aD 3) (bB g)))))]) (C:=[]) bh trivial<|bj 41 (kd == (4:Int)) bE<|zq<|du 47 (kd == (5:Int)) fb<|zP 2 [yH [(1,{av:=some (ai ↑x3),ln:=[(1000000000000,1000000000000)],ho:=[(1000000000000,Row.mk 1 false true [AV.sl 1 (ax l),ai ↑k3])]}),(2,yV (aw (u64 (↑x3:Int))))],yH [(2,{k:=g.aK.length})]] [.ae [56,47,41,36,31,32,23,22,6,5,4,3,0,1] [5,1000000000000,6,4,3]] [yI N3,yB ([AV.sl 1 (ax l),ai ↑k2].length= [AV.sl 1 (ax l),ai ↑k3].length∧0< [AV.sl 1 (ax l),ai ↑k3].length) ⟨rfl,Nat.succ_pos _⟩,yI (a6 ((↑x3:Int))),yL 16 17,yI qD]<|gT 56 ((↑g.aK.length:Int)>0)<|y9 7 [6] [(5,{k:=g.aK.length}),(6,{av:=some (ai ↑x4),ln:=[(1000000000000,1000000000000)],ho:=[(1000000000000,Row.mk 1 false true [AV.sl 1 (ax l),ai ↑k4])]}),(7,{k:=x4}),(9,yV (aw ((g.aK.getD x4 default).bR)))] [yI qD,yI N4,yB ([AV.sl 1 (ax l),ai ↑k3].length= [AV.sl 1 (ax l),ai ↑k4].length∧0< [AV.sl 1 (ax l),ai ↑k4].length) ⟨rfl,Nat.succ_pos _⟩,yR (AV.addr 3 4),yR (AV.sl 7 (af bc g.aK)),yR (↑x4:Int),yO (x4*7<(af bc g.aK).length),yA bc g.aK x4 0,yL 15 17]<|aM<|ak (⟨(),⟨a4,rfl⟩,(zW [.ae [6,5,4,3,0,1] [6,4,3,5,1000000000000]])⟩)
  ·have hS:S=(qk g kd,k2):=by rw [hP];unfold yD;rw [if_neg c1,if_neg c2,if_neg c3,if_neg c4,if_neg c5]
   clear hP;subst hS
   refine zq<|zB 0<|zP 1 [{}] [.ae [23,22,6,5,4,3,0,1] [6,1000000000000,5,4,3]] []<|bj 23 (kd == (1:Int)) bE<|zq<|bj 31 (kd == (2:Int)) bE<|zq<|bj 36 (kd == (3:Int)) bE<|zP 1 [{}] [.ae [41,36,31,32,23,22,6,5,4,3,0,1] [6,1000000000000,5,4,3]] []<|bj 41 (kd == (4:Int)) bE<|zq<|bj 47 (kd == (5:Int)) bE<|zK<|aM<|ak (⟨(),⟨a2,rfl⟩,(zW [.ae [6,5,4,3,0,1] [6,4,3,5,1000000000000]])⟩)
 intro u hu
 clear hP N1 N2 Ou zd
 obtain ⟨e1,k3⟩:=S
 obtain ⟨hu,U5⟩:=hu
 simp only at hu U5 ⊢
 obtain ⟨x3,Gx⟩:∃x,x=gV l k3 24:=⟨_,rfl⟩
 obtain ⟨k4,AP⟩:∃x,x=dS l k3:=⟨_,rfl⟩
 have N3:=dE l k3 24 hu hl (by decide) (by decide)
 have a4:=dN hu
 rw [←Gx,←AP] at N3
 rw [←AP] at a4
 have hE:Bk l (e1,k3)=if x3=23 then ({e1 with aB:=e1.aB+((gV l k4 3:Int)-1)},dS l k4) else if x3=22 then ({e1 with prev:=e1.prev+1},k4) else if x3=21 then ({e1 with name:=q6.getD (gV l k4 3) []},dS l k4) else if x3=20 then ({e1 with target:=7},k4) else if x3=19 then ({e1 with dep:={e1.dep with need:=(gV l k4 12:Int)-1}},dS l k4) else (e1,k4):=by unfold Bk;rw [Gx,AP]
 clear Gx AP
 generalize hT:Bk l (e1,k3)=T at *
 obtain ⟨e2,k5⟩:=T
 simp only
 clear hT
 refine bf.oN (fun (u:Unit)=>(⟨[(6,AV.addr 6 0),(5,AV.addr 5 0),(4,AV.addr 4 0),(3,AV.addr 3 0),(0,AV.addr 1000000000000 0),(1,AV.agg (bB g))],[(6,⟨1,false,true,(aH (dK x2))⟩),(4,⟨1,false,true,[ai 0,cO,ai 0,AV.val (Value.string (ByteArray.mk #[])),ai 0,cO,ai 0,cO,cO,AV.nil,AV.nil,AV.nil,ai 0,cO,cO,cO,AV.nil]⟩),(3,⟨1,false,true,List.map (aD 6) (List.map (aD 4) (List.map (aD 3) (bB g)))⟩),(5,⟨1,false,true,aT e2⟩),(1000000000000,⟨1,false,true,[.sl 1 (ax l),ai k5]⟩)]⟩:AS)) (fun u=>(True)) bh ?_ ?_
 ·by_cases d1:x3=23
  ·rw [if_pos d1] at hE
   obtain ⟨x4,xQ⟩:∃x,x=gV l k4 3:=⟨_,rfl⟩
   obtain ⟨k6,FK⟩:∃x,x=dS l k4:=⟨_,rfl⟩
   have N4:=dE l k4 3 a4 hl (by decide) (by decide)
   have b4:=lE l k4 (n:=3) (by decide)
   rw [←xQ,←FK] at hE
   rw [←xQ,←FK] at N4
   rw [←xQ] at b4
   clear xQ FK
   injection hE with h1 h2
   subst h1 h2
   have T8:IntKind.i64.wrap ((x4:Int)-1)=(x4:Int)-1:=by rw [IntKind.wrap_i64];omega
   have VT:IntKind.i64.wrap (e1.aB+((x4:Int)-1))=e1.aB+((x4:Int)-1):=by rw [IntKind.wrap_i64];omega
   refine zQ 1 [yH [(1,{av:=some (ai ↑x3),ln:=[(1000000000000,1000000000000)],ho:=[(1000000000000,Row.mk 1 false true [AV.sl 1 (ax l),ai ↑k4])]})]] [yI N3,yB ([AV.sl 1 (ax l),ai ↑k3].length= [AV.sl 1 (ax l),ai ↑k4].length∧0< [AV.sl 1 (ax l),ai ↑k4].length) ⟨rfl,Nat.succ_pos _⟩]<|zB 1<|zP 1 [{}] [.ae [70,69,6,5,4,3,0,1] [1000000000000,6,4,3,5]] []<|du 70 ((↑x3:Int) == (23:Int)) fb<|y9 5 [3] [(3,{av:=some (ai ↑x4),ln:=[(1000000000000,1000000000000)],ho:=[(1000000000000,Row.mk 1 false true [AV.sl 1 (ax l),ai ↑k5])]}),(4,yV (ai ((↑x4:Int)-1))),(5,yV (ai (e1.aB+((↑x4:Int)-1))))] [yI N4,yB ([AV.sl 1 (ax l),ai ↑k4].length= [AV.sl 1 (ax l),ai ↑k5].length∧0< [AV.sl 1 (ax l),ai ↑k5].length) ⟨rfl,Nat.succ_pos _⟩,yR (AV.addr 5 0),yR (ai e1.aB),yN ((↑x4:Int)-1),yN (e1.aB+((↑x4:Int)-1)),yL 1 17]<|aM<|ak (⟨(),trivial,(zW [.ae [6,5,4,3,0,1] [6,4,3,5,1000000000000]])⟩)
  rw [if_neg d1] at hE
  by_cases d2:x3=22
  ·rw [if_pos d2] at hE
   injection hE with h1 h2
   subst h1 h2
   refine zQ 1 [yH [(1,{av:=some (ai ↑x3),ln:=[(1000000000000,1000000000000)],ho:=[(1000000000000,Row.mk 1 false true [AV.sl 1 (ax l),ai ↑k5])]})]] [yI N3,yB ([AV.sl 1 (ax l),ai ↑k3].length= [AV.sl 1 (ax l),ai ↑k5].length∧0< [AV.sl 1 (ax l),ai ↑k5].length) ⟨rfl,Nat.succ_pos _⟩]<|zB 1<|zP 1 [{}] [.ae [70,69,6,5,4,3,0,1] [1000000000000,6,4,3,5]] []<|bj 70 ((↑x3:Int) == (23:Int)) bE<|zq<|du 79 ((↑x3:Int) == (22:Int)) fb<|zX (yH [(2,yV (aw (e1.prev+1)))]) [yR (aw (e1.prev+1)),yL 2 17]<|aM<|ak (⟨(),trivial,(zW [.ae [6,5,4,3,0,1] [6,4,3,5,1000000000000]])⟩)
  rw [if_neg d2] at hE
  by_cases d3:x3=21
  ·rw [if_pos d3] at hE
   obtain ⟨x4,xQ⟩:∃x,x=gV l k4 3:=⟨_,rfl⟩
   obtain ⟨k6,FK⟩:∃x,x=dS l k4:=⟨_,rfl⟩
   have N4:=dE l k4 3 a4 hl (by decide) (by decide)
   have b4:=lE l k4 (n:=3) (by decide)
   rw [←xQ,←FK] at hE
   rw [←xQ,←FK] at N4
   rw [←xQ] at b4
   have KY:=HJ (n:=x4) ah
   generalize q6.getD x4 []=Uj at *
   clear xQ FK
   injection hE with h1 h2
   subst h1 h2
   refine zQ 1 [yH [(1,{av:=some (ai ↑x3),ln:=[(1000000000000,1000000000000)],ho:=[(1000000000000,Row.mk 1 false true [AV.sl 1 (ax l),ai ↑k4])]})]] [yI N3,yB ([AV.sl 1 (ax l),ai ↑k3].length= [AV.sl 1 (ax l),ai ↑k4].length∧0< [AV.sl 1 (ax l),ai ↑k4].length) ⟨rfl,Nat.succ_pos _⟩]<|zB 1<|zP 1 [{}] [.ae [70,69,6,5,4,3,0,1] [1000000000000,6,4,3,5]] []<|bj 70 ((↑x3:Int) == (23:Int)) bE<|zq<|bj 79 ((↑x3:Int) == (22:Int)) bE<|zP 1 [{}] [.ae [85,79,70,69,6,5,4,3,0,1] [1000000000000,6,4,3,5]] []<|du 85 ((↑x3:Int) == (21:Int)) fb<|zX (yH [(2,{av:=some (ai ↑x4),ln:=[(1000000000000,1000000000000)],ho:=[(1000000000000,Row.mk 1 false true [AV.sl 1 (ax l),ai ↑k5])]}),(3,{k:=x4}),(4,yV (db Uj))]) [yI N4,yB ([AV.sl 1 (ax l),ai ↑k4].length= [AV.sl 1 (ax l),ai ↑k5].length∧0< [AV.sl 1 (ax l),ai ↑k5].length) ⟨rfl,Nat.succ_pos _⟩,yR (↑x4:Int),yO (x4<3),yI KY,yL 4 17]<|aM<|ak (⟨(),trivial,(zW [.ae [6,5,4,3,0,1] [6,4,3,5,1000000000000]])⟩)
  rw [if_neg d3] at hE
  by_cases d4:x3=20
  ·rw [if_pos d4] at hE
   injection hE with h1 h2
   subst h1 h2
   refine zQ 1 [yH [(1,{av:=some (ai ↑x3),ln:=[(1000000000000,1000000000000)],ho:=[(1000000000000,Row.mk 1 false true [AV.sl 1 (ax l),ai ↑k5])]})]] [yI N3,yB ([AV.sl 1 (ax l),ai ↑k3].length= [AV.sl 1 (ax l),ai ↑k5].length∧0< [AV.sl 1 (ax l),ai ↑k5].length) ⟨rfl,Nat.succ_pos _⟩]<|zB 1<|zP 1 [{}] [.ae [70,69,6,5,4,3,0,1] [1000000000000,6,4,3,5]] []<|bj 70 ((↑x3:Int) == (23:Int)) bE<|zq<|bj 79 ((↑x3:Int) == (22:Int)) bE<|zP 1 [{}] [.ae [85,79,70,69,6,5,4,3,0,1] [1000000000000,6,4,3,5]] []<|bj 85 ((↑x3:Int) == (21:Int)) bE<|zq<|du 93 ((↑x3:Int) == (20:Int)) fb<|zX {} [yL 16 17]<|aM<|ak (⟨(),trivial,(zW [.ae [6,5,4,3,0,1] [6,4,3,5,1000000000000]])⟩)
  rw [if_neg d4] at hE
  by_cases d5:x3=19
  ·rw [if_pos d5] at hE
   obtain ⟨x4,xQ⟩:∃x,x=gV l k4 12:=⟨_,rfl⟩
   obtain ⟨k6,FK⟩:∃x,x=dS l k4:=⟨_,rfl⟩
   have N4:=dE l k4 12 a4 hl (by decide) (by decide)
   have b4:=lE l k4 (n:=12) (by decide)
   rw [←xQ,←FK] at hE
   rw [←xQ,←FK] at N4
   rw [←xQ] at b4
   clear xQ FK
   injection hE with h1 h2
   subst h1 h2
   have T8:IntKind.i64.wrap ((x4:Int)-1)=(x4:Int)-1:=by rw [IntKind.wrap_i64];omega
   refine zQ 1 [yH [(1,{av:=some (ai ↑x3),ln:=[(1000000000000,1000000000000)],ho:=[(1000000000000,Row.mk 1 false true [AV.sl 1 (ax l),ai ↑k4])]})]] [yI N3,yB ([AV.sl 1 (ax l),ai ↑k3].length= [AV.sl 1 (ax l),ai ↑k4].length∧0< [AV.sl 1 (ax l),ai ↑k4].length) ⟨rfl,Nat.succ_pos _⟩]<|zB 1<|zP 1 [{}] [.ae [70,69,6,5,4,3,0,1] [1000000000000,6,4,3,5]] []<|bj 70 ((↑x3:Int) == (23:Int)) bE<|zq<|bj 79 ((↑x3:Int) == (22:Int)) bE<|zP 1 [{}] [.ae [85,79,70,69,6,5,4,3,0,1] [1000000000000,6,4,3,5]] []<|bj 85 ((↑x3:Int) == (21:Int)) bE<|zq<|bj 93 ((↑x3:Int) == (20:Int)) bE<|zP 1 [{}] [.ae [96,93,85,79,70,69,6,5,4,3,0,1] [1000000000000,6,4,3,5]] []<|du 96 ((↑x3:Int) == (19:Int)) fb<|zX (yH [(1,{av:=some (ai ↑x4),ln:=[(1000000000000,1000000000000)],ho:=[(1000000000000,Row.mk 1 false true [AV.sl 1 (ax l),ai ↑k5])]}),(2,yV (ai ((↑x4:Int)-1)))]) [yI N4,yB ([AV.sl 1 (ax l),ai ↑k4].length= [AV.sl 1 (ax l),ai ↑k5].length∧0< [AV.sl 1 (ax l),ai ↑k5].length) ⟨rfl,Nat.succ_pos _⟩,yN ((↑x4:Int)-1),yL 13 17]<|aM<|ak (⟨(),trivial,(zW [.ae [6,5,4,3,0,1] [6,4,3,5,1000000000000]])⟩)
  ·rw [if_neg d5] at hE
   injection hE with h1 h2
   subst h1 h2
   refine zQ 1 [yH [(1,{av:=some (ai ↑x3),ln:=[(1000000000000,1000000000000)],ho:=[(1000000000000,Row.mk 1 false true [AV.sl 1 (ax l),ai ↑k5])]})]] [yI N3,yB ([AV.sl 1 (ax l),ai ↑k3].length= [AV.sl 1 (ax l),ai ↑k5].length∧0< [AV.sl 1 (ax l),ai ↑k5].length) ⟨rfl,Nat.succ_pos _⟩]<|zB 1<|zP 1 [{}] [.ae [70,69,6,5,4,3,0,1] [1000000000000,6,4,3,5]] []<|bj 70 ((↑x3:Int) == (23:Int)) bE<|zq<|bj 79 ((↑x3:Int) == (22:Int)) bE<|zP 1 [{}] [.ae [85,79,70,69,6,5,4,3,0,1] [1000000000000,6,4,3,5]] []<|bj 85 ((↑x3:Int) == (21:Int)) bE<|bf.i9 1 [{}] bh (s':=AS.mk [(93,ao ((↑x3:Int) == (20:Int))),(94,ao ((↑x3:Int) == (20:Int))),(85,ao ((↑x3:Int) == (21:Int))),(79,ao ((↑x3:Int) == (22:Int))),(70,ao ((↑x3:Int) == (23:Int))),(69,ai ↑x3),(6,AV.addr 6 0),(5,AV.addr 5 0),(4,AV.addr 4 0),(3,AV.addr 3 0),(0,AV.addr 1000000000000 0),(1,AV.agg (bB g))] [(1000000000000,Row.mk 1 false true [AV.sl 1 (ax l),ai ↑k5]),(6,Row.mk 1 false true (aH (dK x2))),(4,Row.mk 1 false true [ai 0,cO,ai 0,AV.val (Value.string (ByteArray.mk #[])),ai 0,cO,ai 0,cO,cO,AV.nil,AV.nil,AV.nil,ai 0,cO,cO,cO,AV.nil]),(3,Row.mk 1 false true (List.map (aD 6) (List.map (aD 4) (List.map (aD 3) (bB g))))),(5,Row.mk 1 false true (aT e2))]) (C:=[]) bh trivial<|bj 93 ((↑x3:Int) == (20:Int)) bE<|zP 1 [{}] [.ae [96,93,85,79,70,69,6,5,4,3,0,1] [1000000000000,6,4,3,5]] []<|bj 96 ((↑x3:Int) == (19:Int)) bE<|zK<|aM<|ak (⟨(),trivial,(zW [.ae [6,5,4,3,0,1] [6,4,3,5,1000000000000]])⟩)
 intro u hu
 refine zP 1 [{}] [.ae [6,5,4,3,0,1] [4,6,3,5,1000000000000]] [yL 17 17]<|zR (zG [] [yR (Value.int .i64 e2.aB),yR (Value.int .u64 (wv e2.prev)),yR (Value.int .i64 e2.kind),yR (Value.string (ByteArray.mk e2.name.toArray)),yR (Value.int .i64 e2.kh),yR (Value.int .u64 (wv e2.kr)),yR (Value.int .i64 e2.bt),yR (Value.int .u64 (wv e2.dep.bR)),yR (Value.int .u64 (wv e2.dep.peer)),yR (ag e2.dep.box),yR (af ay e2.dep.aa),yR (aj e2.dep.au),yR (Value.int .i64 e2.dep.need),yR (Value.int .u64 (wv e2.dep.target)),yR (Value.int .u64 (wv e2.bR)),yR (Value.int .u64 (wv e2.target)),yR (af a8 e2.aq),yR [AV.sl 1 (ax l),ai ↑k5]])
end Go.Proofs.YtjgbhhnghedgdaaGreatDoor
