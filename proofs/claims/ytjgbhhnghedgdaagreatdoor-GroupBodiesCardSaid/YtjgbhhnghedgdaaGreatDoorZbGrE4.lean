import Derived.Test.YtjgbhhnghedgdaaGreatDoorZbGrE3
set_option linter.all false
namespace Go.Proofs.YtjgbhhnghedgdaaGreatDoor
open Go.RowKit
set_option maxRecDepth 100000
set_option maxHeartbeats 4000000
def Ed:List Int:=[1,1,1,2,3,4,4,5,5,0,6]
def q6:List (List UInt8):=[[],[255],[109,49]]
def P_:na:=⟨0,0,[],[],[],0,0⟩
def qk (g:gX) (kd:Int):eP:=⟨g.aB+1,g.head,kd,[],0,0,0,P_,0,0,[]⟩
def yq (l:List Int) (g:gX) (kd:Int) (n k:Nat):eP×Nat :=
 if kd=1 then ({qk g kd with name:=(dz n).name,kh:=(dz n).h,kr:=(dz n).r},k)
 else if kd=2 then ({qk g kd with name:=(dz n).name},k)
 else if kd=3 then ({qk g kd with bA:=gW l k 10},dU l k)
 else if kd=4 then ({qk g kd with dep:=Nw l g k},Ow l g k)
 else if kd=5 then (if g.aO.length=0 then ({qk g kd with target:=u64 (gW l k 5)},dU l k) else ({qk g kd with target:=u64 (gW l k 5),bZ:=(g.aO.getD (gW l (dU l k) g.aO.length) default).bZ},dU l (dU l k)))
 else (qk g kd,k)
def Bb (l:List Int) (s:eP×Nat):eP×Nat :=
 if gW l s.2 24=23 then ({s.1 with aB:=s.1.aB+((gW l (dU l s.2) 3:Int)-1)},dU l (dU l s.2))
 else if gW l s.2 24=22 then ({s.1 with prev:=s.1.prev+1},dU l s.2)
 else if gW l s.2 24=21 then ({s.1 with name:=q6.getD (gW l (dU l s.2) 3) []},dU l (dU l s.2))
 else if gW l s.2 24=20 then ({s.1 with target:=7},dU l s.2)
 else if gW l s.2 24=19 then ({s.1 with dep:={s.1.dep with need:=(gW l (dU l s.2) 12:Int)-1}},dU l (dU l s.2))
 else (s.1,dU l s.2)
def Sz (l:List Int) (g:gX) (k:Nat):eP×Nat:=yq l g (Ed.getD (gW l k 11) 0) (gW l (dU l k) 10) (dU l (dU l k))
def sM (l:List Int) (g:gX) (k:Nat):eP×Nat:=Bb l (Sz l g k)
def TL:List (Nat×Nat):=[(9,1),(10,1),(11,1),(16,4)]
theorem HR {n:Nat} (h:n<11):(ax [1,1,1,2,3,4,4,5,5,0,6])[n]?=some (ai (Ed.getD n 0)):=by
 rcases n with _|_|_|_|_|_|_|_|_|_|_|n<;>first|rfl|omega
theorem HC {n:Nat} (h:n<3):(q6.map cF)[n]?=some (cF (q6.getD n [])):=by
 rw [List.getElem?_map,List.getD_eq_getElem?_getD,List.getElem?_eq_getElem (by exact h)];rfl
theorem Jd {l:List Int} (g:gX) {k:Nat} (h:k≤l.length):Ow l g k≤l.length:=dQ (dQ (dQ (dQ (dQ (qq g h 10).at_))))
theorem F6 (l:List Int) (k k1 k2 x1 x2:Nat) (kd:Int) (S:eP×Nat) (g:gX) (hl:l.length≤9223372036854775807) (hG:qD g) (hP:S=yq l g kd x2 k2) (b1:x1<11) (b2:x2<10) (a2:k2≤l.length)
  (N1:dh Tryz.prog 24 [.addr 1000000000000 0,ai 11] (y5 l k) (ai x1) (y5 l k1)) (N2:dh Tryz.prog 24 [.addr 1000000000000 0,ai 10] (y5 l k1) (ai x2) (y5 l k2))
  (Of:(ax [1,1,1,2,3,4,4,5,5,0,6])[x1]?=some (ai kd)):dh Tryz.prog 16 [.addr 1000000000000 0,.agg (bQ g)] (y5 l k) (.agg (a7 (Bb l S).1)) (y5 l (Bb l S).2):=by
 obtain ⟨g1,g2,g3,g4,g5,g6⟩:=hG
 have y0:=gu x2 aj
 have hw:IntKind.i64.wrap (g.aB+1)=g.aB+1:=by rw [IntKind.wrap_i64];omega
 unfold y5 at *
 refine m6 Tryz.func16 104<|zq<|zS<|zA 12 [7] [11] [(2,yV (ai (g.aB+1))),(5,yV (AV.arr (ax [(1:Int),(1:Int),(1:Int),(2:Int),(3:Int),(4:Int),(4:Int),(5:Int),(5:Int),(0:Int),(6:Int)]))),(7,{av:=some (ai ↑x1),ln:=[(1000000000000,1000000000000)],ho:=[(1000000000000,Row.mk 1 false true [AV.sl 1 (ax l),ai ↑k1])]}),(8,{k:=x1}),(9,yV (ai kd))] [yN (g.aB+1),yR [ai 1,ai 1,ai 1,ai 2,ai 3,ai 4,ai 4,ai 5,ai 5,ai 0,ai 6],yI N1,yB ([AV.sl 1 (ax l),ai ↑k].length= [AV.sl 1 (ax l),ai ↑k1].length∧0< [AV.sl 1 (ax l),ai ↑k1].length) ⟨rfl,Nat.succ_pos _⟩,yR (AV.addr 3 0),yR (ai g.aB),yR (ai (g.aB+1)),yN (g.aB+1),yR (AV.addr 3 1),yR (aw g.head),yR (AV.sl 1 (ax [(1:Int),(1:Int),(1:Int),(2:Int),(3:Int),(4:Int),(4:Int),(5:Int),(5:Int),(0:Int),(6:Int)])),yR [ai 1,ai 1,ai 1,ai 2,ai 3,ai 4,ai 4,ai 5,ai 5,ai 0,ai 6],yR (↑x1:Int),yI b1,yI Of,yL 17 17]<|aq<|bf.oQ (bS.ME 5 TL bk)<|zP 1 [yH [(1,{av:=some (ai ↑x2),ln:=[(1000000000000,1000000000000)],ho:=[(1000000000000,Row.mk 1 false true [AV.sl 1 (ax l),ai ↑k2])]}),(2,yV (AV.agg (aF (dz x2))))]] [.aa [6,5,4,3,0,1] [6,1000000000000,5,4,3]] [yI N2,yB ([AV.sl 1 (ax l),ai ↑k1].length= [AV.sl 1 (ax l),ai ↑k2].length∧0< [AV.sl 1 (ax l),ai ↑k2].length) ⟨rfl,Nat.succ_pos _⟩,yI y0,yL 4 4] (bf.oM (fun (u:Unit)=>(⟨[(6,AV.addr 6 0),(5,AV.addr 5 0),(4,AV.addr 4 0),(3,AV.addr 3 0),(0,AV.addr 1000000000000 0),(1,AV.agg (bQ g))],[(6,⟨1,false,true,(aF (dz x2))⟩),(4,⟨1,false,true,[ai 0,cQ,ai 0,AV.val (Value.string (ByteArray.mk #[])),ai 0,cQ,ai 0,cQ,cQ,AV.nil,AV.nil,AV.nil,ai 0,cQ,cQ,cQ,AV.nil]⟩),(3,⟨1,false,true,List.map (aE 6) (List.map (aE 4) (List.map (aE 3) (bQ g)))⟩),(5,⟨1,false,true,a7 S.1⟩),(1000000000000,⟨1,false,true,[.sl 1 (ax l),ai S.2]⟩)]⟩:AS)) (fun u=>(S.2≤l.length∧S.1.aB=g.aB+1)) bk ?_ ?_)
 ·by_cases c1:kd=1
  ·have hS:S=({qk g kd with name:=(dz x2).name,kh:=(dz x2).h,kr:=(dz x2).r},k2):=hP.trans (if_pos c1)
   clear hP;subst hS
   refine zq<|zB 0<|zP 1 [{}] [.aa [23,22,6,5,4,3,0,1] [6,1000000000000,5,4,3]] []<|dB 23 (kd == (1:Int)) fg<|y8 6 [5] [] [yL 4 17,yR (AV.addr 6 1),yR (AV.agg [ai ((dz x2).h),aw ((dz x2).r)]),yL 6 17]<|aL<|aq (⟨(),⟨a2,rfl⟩,(zW [.aa [6,5,4,3,0,1] [6,4,3,5,1000000000000]])⟩)
  by_cases c2:kd=2
  ·have hS:S=({qk g kd with name:=(dz x2).name},k2):=by rw [hP];unfold yq;rw [if_neg c1,if_pos c2]
   clear hP;subst hS
   refine zq<|zB 0<|zP 1 [{}] [.aa [23,22,6,5,4,3,0,1] [6,1000000000000,5,4,3]] []<|bn 23 (kd == (1:Int)) bE<|zq<|dB 31 (kd == (2:Int)) fg<|zX {} [yL 4 17]<|aL<|aq (⟨(),⟨a2,rfl⟩,(zW [.aa [6,5,4,3,0,1] [6,4,3,5,1000000000000]])⟩)
  by_cases c3:kd=3
  ·obtain ⟨x3,Gr⟩:∃x,x=gW l k2 10:=⟨_,rfl⟩
   obtain ⟨k3,Cr⟩:∃x,x=dU l k2:=⟨_,rfl⟩
   have N3:=dH l k2 10 a2 hl (by decide) (by decide)
   have a3:=dQ a2
   have hS:S=({qk g kd with bA:=gW l k2 10},dU l k2):=by rw [hP];unfold yq;rw [if_neg c1,if_neg c2,if_pos c3]
   rw [←Gr,←Cr] at hS
   rw [←Gr,←Cr] at N3
   rw [←Cr] at a3
   clear hP Gr Cr;subst hS
   refine zq<|zB 0<|zP 1 [{}] [.aa [23,22,6,5,4,3,0,1] [6,1000000000000,5,4,3]] []<|bn 23 (kd == (1:Int)) bE<|zq<|bn 31 (kd == (2:Int)) bE<|zq<|dB 36 (kd == (3:Int)) fg<|zX (yH [(1,{av:=some (ai ↑x3),ln:=[(1000000000000,1000000000000)],ho:=[(1000000000000,Row.mk 1 false true [AV.sl 1 (ax l),ai ↑k3])]})]) [yI N3,yB ([AV.sl 1 (ax l),ai ↑k2].length= [AV.sl 1 (ax l),ai ↑k3].length∧0< [AV.sl 1 (ax l),ai ↑k3].length) ⟨rfl,Nat.succ_pos _⟩,yL 7 17]<|aL<|aq (⟨(),⟨a3,rfl⟩,(zW [.aa [6,5,4,3,0,1] [6,4,3,5,1000000000000]])⟩)
  by_cases c4:kd=4
  ·have N3:=yt l k2 g a2 hl g3
   unfold y5 at N3
   have a3:=Jd g a2
   have hS:S=({qk g kd with dep:=Nw l g k2},Ow l g k2):=by rw [hP];unfold yq;rw [if_neg c1,if_neg c2,if_neg c3,if_pos c4]
   obtain ⟨D,hD⟩:∃x,x=Nw l g k2:=⟨_,rfl⟩
   obtain ⟨k3,Cr⟩:∃x,x=Ow l g k2:=⟨_,rfl⟩
   rw [←hD,←Cr] at hS
   rw [←hD,←Cr] at N3
   rw [←Cr] at a3
   clear hP hD Cr;subst hS
   refine zq<|zB 0<|zP 1 [{}] [.aa [23,22,6,5,4,3,0,1] [6,1000000000000,5,4,3]] []<|bn 23 (kd == (1:Int)) bE<|zq<|bn 31 (kd == (2:Int)) bE<|zq<|bn 36 (kd == (3:Int)) bE<|zP 1 [{}] [.aa [41,36,31,32,23,22,6,5,4,3,0,1] [6,1000000000000,5,4,3]] []<|dB 41 (kd == (4:Int)) fg<|zX (yH [(2,{av:=some (AV.agg (bg D)),ln:=[(1000000000000,1000000000000)],ho:=[(1000000000000,Row.mk 1 false true [AV.sl 1 (ax l),ai ↑k3])]})]) [yI N3,yB ([AV.sl 1 (ax l),ai ↑k2].length= [AV.sl 1 (ax l),ai ↑k3].length∧0< [AV.sl 1 (ax l),ai ↑k3].length) ⟨rfl,Nat.succ_pos _⟩,yL 14 17]<|aL<|aq (⟨(),⟨a3,rfl⟩,(zW [.aa [6,5,4,3,0,1] [6,4,3,5,1000000000000]])⟩)
  by_cases c5:kd=5
  ·obtain ⟨x3,Gr⟩:∃x,x=gW l k2 5:=⟨_,rfl⟩
   obtain ⟨k3,Cr⟩:∃x,x=dU l k2:=⟨_,rfl⟩
   have N3:=dH l k2 5 a2 hl (by decide) (by decide)
   have a3:=dQ a2
   have hS:S=(if g.aO.length=0 then ({qk g kd with target:=u64 (gW l k2 5)},dU l k2) else ({qk g kd with target:=u64 (gW l k2 5),bZ:=(g.aO.getD (gW l (dU l k2) g.aO.length) default).bZ},dU l (dU l k2))):=by rw [hP];unfold yq;rw [if_neg c1,if_neg c2,if_neg c3,if_neg c4,if_pos c5]
   rw [←Gr,←Cr] at hS
   rw [←Gr,←Cr] at N3
   rw [←Cr] at a3
   have s9:(ae bg g.aO).length=g.aO.length*7:=aG (e:=7) (fun _=>rfl) ..
   by_cases c6:g.aO.length=0
   ·rw [if_pos c6] at hS
    clear hP Gr Cr;subst hS
    refine zq<|zB 0<|zP 1 [{}] [.aa [23,22,6,5,4,3,0,1] [6,1000000000000,5,4,3]] []<|bn 23 (kd == (1:Int)) bE<|zq<|bn 31 (kd == (2:Int)) bE<|zq<|bn 36 (kd == (3:Int)) bE<|zP 1 [{}] [.aa [41,36,31,32,23,22,6,5,4,3,0,1] [6,1000000000000,5,4,3]] []<|bn 41 (kd == (4:Int)) bE<|zq<|dB 47 (kd == (5:Int)) fg<|zP 2 [yH [(1,{av:=some (ai ↑x3),ln:=[(1000000000000,1000000000000)],ho:=[(1000000000000,Row.mk 1 false true [AV.sl 1 (ax l),ai ↑k3])]}),(2,yV (aw (u64 (↑x3:Int))))],yH [(2,{k:=g.aO.length})]] [.aa [56,47,41,36,31,32,23,22,6,5,4,3,0,1] [5,1000000000000,6,4,3]] [yI N3,yB ([AV.sl 1 (ax l),ai ↑k2].length= [AV.sl 1 (ax l),ai ↑k3].length∧0< [AV.sl 1 (ax l),ai ↑k3].length) ⟨rfl,Nat.succ_pos _⟩,yI (aY ((↑x3:Int))),yL 16 17,yI s9]<|dt 56 ((↑g.aO.length:Int)>0)<|zK<|aL<|aq (⟨(),⟨a3,rfl⟩,(zW [.aa [6,5,4,3,0,1] [6,4,3,5,1000000000000]])⟩)
   ·rw [if_neg c6] at hS
    have N4:=dH l k3 g.aO.length a3 hl aj aj
    have a4:=dQ a3
    have b4:=lG l k3 (n:=g.aO.length) aj
    obtain ⟨x4,xM⟩:∃x,x=gW l k3 g.aO.length:=⟨_,rfl⟩
    obtain ⟨k4,AD⟩:∃x,x=dU l k3:=⟨_,rfl⟩
    rw [←xM,←AD] at hS
    rw [←xM,←AD] at N4
    rw [←AD] at a4
    rw [←xM] at b4
    have gN:=yr (l:=g.aO) (i:=x4) aj
    clear hP Gr Cr xM AD;subst hS
    refine zq<|zB 0<|zP 1 [{}] [.aa [23,22,6,5,4,3,0,1] [6,1000000000000,5,4,3]] []<|bn 23 (kd == (1:Int)) bE<|zq<|bn 31 (kd == (2:Int)) bE<|zq<|bn 36 (kd == (3:Int)) bE<|bf.jX 1 [{}] [.aa [41,36,31,32,23,22,6,5,4,3,0,1] [6,1000000000000,5,4,3]] bk (s':=AS.mk [(41,ao (kd == (4:Int))),(36,ao (kd == (3:Int))),(31,ao (kd == (2:Int))),(32,ao (kd == (2:Int))),(23,ao (kd == (1:Int))),(22,ai kd),(6,AV.addr 6 0),(5,AV.addr 5 0),(4,AV.addr 4 0),(3,AV.addr 3 0),(0,AV.addr 1000000000000 0),(1,AV.agg (bQ g))] [(6,Row.mk 1 false true (aF (dz x2))),(1000000000000,Row.mk 1 false true [AV.sl 1 (ax l),ai ↑k2]),(5,Row.mk 1 false true (List.map (aE 6) (JL TL (BS (AS.mk [(5,AV.addr 5 0),(7,AV.addr 3 0),(8,ai g.aB),(9,ai (g.aB+1)),(10,AV.addr 3 1),(11,aw g.head),(12,AV.sl 1 (ax [(1:Int),(1:Int),(1:Int),(2:Int),(3:Int),(4:Int),(4:Int),(5:Int),(5:Int),(0:Int),(6:Int)])),(13,AV.addr 1000000000000 0),(14,ai ↑x1),(15,AV.ptr (ax [(1:Int),(1:Int),(1:Int),(2:Int),(3:Int),(4:Int),(4:Int),(5:Int),(5:Int),(0:Int),(6:Int)]) x1),(16,ai kd),(17,AV.agg [ai (g.aB+1),aw g.head,ai kd,AV.val (Value.string (ByteArray.mk #[])),ai 0,cQ,ai 0,cQ,cQ,AV.nil,AV.nil,AV.nil,ai 0,cQ,cQ,cQ,AV.nil]),(4,AV.addr 4 0),(3,AV.addr 3 0),(0,AV.addr 1000000000000 0),(1,AV.agg (bQ g))] [(5,Row.mk 1 false true [ai (g.aB+1),aw g.head,ai kd,AV.val (Value.string (ByteArray.mk #[])),ai 0,cQ,ai 0,cQ,cQ,AV.nil,AV.nil,AV.nil,ai 0,cQ,cQ,cQ,AV.nil]),(1000000000000,Row.mk 1 false true [AV.sl 1 (ax l),ai ↑k1]),(4,Row.mk 1 false true [ai 0,cQ,ai 0,AV.val (Value.string (ByteArray.mk #[])),ai 0,cQ,ai 0,cQ,cQ,AV.nil,AV.nil,AV.nil,ai 0,cQ,cQ,cQ,AV.nil]),(3,Row.mk 1 false true (List.map (aE 4) (List.map (aE 3) (bQ g))))]) 5).cells 0))),(4,Row.mk 1 false true [ai 0,cQ,ai 0,AV.val (Value.string (ByteArray.mk #[])),ai 0,cQ,ai 0,cQ,cQ,AV.nil,AV.nil,AV.nil,ai 0,cQ,cQ,cQ,AV.nil]),(3,Row.mk 1 false true (List.map (aE 6) (List.map (aE 4) (List.map (aE 3) (bQ g)))))]) (C:=[]) bk trivial<|bn 41 (kd == (4:Int)) bE<|zq<|dB 47 (kd == (5:Int)) fg<|zP 2 [yH [(1,{av:=some (ai ↑x3),ln:=[(1000000000000,1000000000000)],ho:=[(1000000000000,Row.mk 1 false true [AV.sl 1 (ax l),ai ↑k3])]}),(2,yV (aw (u64 (↑x3:Int))))],yH [(2,{k:=g.aO.length})]] [.aa [56,47,41,36,31,32,23,22,6,5,4,3,0,1] [5,1000000000000,6,4,3]] [yI N3,yB ([AV.sl 1 (ax l),ai ↑k2].length= [AV.sl 1 (ax l),ai ↑k3].length∧0< [AV.sl 1 (ax l),ai ↑k3].length) ⟨rfl,Nat.succ_pos _⟩,yI (aY ((↑x3:Int))),yL 16 17,yI s9]<|gU 56 ((↑g.aO.length:Int)>0)<|y8 7 [6] [(5,{k:=g.aO.length}),(6,{av:=some (ai ↑x4),ln:=[(1000000000000,1000000000000)],ho:=[(1000000000000,Row.mk 1 false true [AV.sl 1 (ax l),ai ↑k4])]}),(7,{k:=x4}),(9,yV (aw ((g.aO.getD x4 default).bZ)))] [yI s9,yI N4,yB ([AV.sl 1 (ax l),ai ↑k3].length= [AV.sl 1 (ax l),ai ↑k4].length∧0< [AV.sl 1 (ax l),ai ↑k4].length) ⟨rfl,Nat.succ_pos _⟩,yR (AV.addr 3 4),yR (AV.sl 7 (ae bg g.aO)),yR (↑x4:Int),yO (x4*7<(ae bg g.aO).length),yB ((ae bg g.aO)[x4*7]?=some (aw ((g.aO.getD x4 default).bZ))) (bc (f:=bg) (e:=7) (k:=x4) (j:=0) (fun _=>rfl) aj rfl),yL 15 17]<|aL<|aq (⟨(),⟨a4,rfl⟩,(zW [.aa [6,5,4,3,0,1] [6,4,3,5,1000000000000]])⟩)
  ·have hS:S=(qk g kd,k2):=by rw [hP];unfold yq;rw [if_neg c1,if_neg c2,if_neg c3,if_neg c4,if_neg c5]
   clear hP;subst hS
   refine zq<|zB 0<|zP 1 [{}] [.aa [23,22,6,5,4,3,0,1] [6,1000000000000,5,4,3]] []<|bn 23 (kd == (1:Int)) bE<|zq<|bn 31 (kd == (2:Int)) bE<|zq<|bn 36 (kd == (3:Int)) bE<|zP 1 [{}] [.aa [41,36,31,32,23,22,6,5,4,3,0,1] [6,1000000000000,5,4,3]] []<|bn 41 (kd == (4:Int)) bE<|zq<|bn 47 (kd == (5:Int)) bE<|zK<|aL<|aq (⟨(),⟨a2,rfl⟩,(zW [.aa [6,5,4,3,0,1] [6,4,3,5,1000000000000]])⟩)
 intro u hu
 clear hP N1 N2 Of y0
 obtain ⟨e1,k3⟩:=S
 obtain ⟨hu,UN⟩:=hu
 simp only at hu UN ⊢
 obtain ⟨x3,Gr⟩:∃x,x=gW l k3 24:=⟨_,rfl⟩
 obtain ⟨k4,AD⟩:∃x,x=dU l k3:=⟨_,rfl⟩
 have N3:=dH l k3 24 hu hl (by decide) (by decide)
 have a4:=dQ hu
 rw [←Gr,←AD] at N3
 rw [←AD] at a4
 have hE:Bb l (e1,k3)=if x3=23 then ({e1 with aB:=e1.aB+((gW l k4 3:Int)-1)},dU l k4) else if x3=22 then ({e1 with prev:=e1.prev+1},k4) else if x3=21 then ({e1 with name:=q6.getD (gW l k4 3) []},dU l k4) else if x3=20 then ({e1 with target:=7},k4) else if x3=19 then ({e1 with dep:={e1.dep with need:=(gW l k4 12:Int)-1}},dU l k4) else (e1,k4):=by unfold Bb;rw [Gr,AD]
 clear Gr AD
 generalize hT:Bb l (e1,k3)=T at *
 obtain ⟨e2,k5⟩:=T
 simp only
 clear hT
 refine bf.oM (fun (u:Unit)=>(⟨[(6,AV.addr 6 0),(5,AV.addr 5 0),(4,AV.addr 4 0),(3,AV.addr 3 0),(0,AV.addr 1000000000000 0),(1,AV.agg (bQ g))],[(6,⟨1,false,true,(aF (dz x2))⟩),(4,⟨1,false,true,[ai 0,cQ,ai 0,AV.val (Value.string (ByteArray.mk #[])),ai 0,cQ,ai 0,cQ,cQ,AV.nil,AV.nil,AV.nil,ai 0,cQ,cQ,cQ,AV.nil]⟩),(3,⟨1,false,true,List.map (aE 6) (List.map (aE 4) (List.map (aE 3) (bQ g)))⟩),(5,⟨1,false,true,a7 e2⟩),(1000000000000,⟨1,false,true,[.sl 1 (ax l),ai k5]⟩)]⟩:AS)) (fun u=>(True)) bk ?_ ?_
 ·by_cases d1:x3=23
  ·rw [if_pos d1] at hE
   obtain ⟨x4,xM⟩:∃x,x=gW l k4 3:=⟨_,rfl⟩
   obtain ⟨k6,FC⟩:∃x,x=dU l k4:=⟨_,rfl⟩
   have N4:=dH l k4 3 a4 hl (by decide) (by decide)
   have b4:=lG l k4 (n:=3) (by decide)
   rw [←xM,←FC] at hE
   rw [←xM,←FC] at N4
   rw [←xM] at b4
   clear xM FC
   injection hE with h1 h2
   subst h1 h2
   have TS:IntKind.i64.wrap ((x4:Int)-1)=(x4:Int)-1:=by rw [IntKind.wrap_i64];omega
   have VE:IntKind.i64.wrap (e1.aB+((x4:Int)-1))=e1.aB+((x4:Int)-1):=by rw [IntKind.wrap_i64];omega
   refine zQ 1 [yH [(1,{av:=some (ai ↑x3),ln:=[(1000000000000,1000000000000)],ho:=[(1000000000000,Row.mk 1 false true [AV.sl 1 (ax l),ai ↑k4])]})]] [yI N3,yB ([AV.sl 1 (ax l),ai ↑k3].length= [AV.sl 1 (ax l),ai ↑k4].length∧0< [AV.sl 1 (ax l),ai ↑k4].length) ⟨rfl,Nat.succ_pos _⟩]<|zB 1<|zP 1 [{}] [.aa [70,69,6,5,4,3,0,1] [1000000000000,6,4,3,5]] []<|dB 70 ((↑x3:Int) == (23:Int)) fg<|y8 5 [3] [(3,{av:=some (ai ↑x4),ln:=[(1000000000000,1000000000000)],ho:=[(1000000000000,Row.mk 1 false true [AV.sl 1 (ax l),ai ↑k5])]}),(4,yV (ai ((↑x4:Int)-1))),(5,yV (ai (e1.aB+((↑x4:Int)-1))))] [yI N4,yB ([AV.sl 1 (ax l),ai ↑k4].length= [AV.sl 1 (ax l),ai ↑k5].length∧0< [AV.sl 1 (ax l),ai ↑k5].length) ⟨rfl,Nat.succ_pos _⟩,yR (AV.addr 5 0),yR (ai e1.aB),yN ((↑x4:Int)-1),yN (e1.aB+((↑x4:Int)-1)),yL 1 17]<|aL<|aq (⟨(),trivial,(zW [.aa [6,5,4,3,0,1] [6,4,3,5,1000000000000]])⟩)
  rw [if_neg d1] at hE
  by_cases d2:x3=22
  ·rw [if_pos d2] at hE
   injection hE with h1 h2
   subst h1 h2
   refine zQ 1 [yH [(1,{av:=some (ai ↑x3),ln:=[(1000000000000,1000000000000)],ho:=[(1000000000000,Row.mk 1 false true [AV.sl 1 (ax l),ai ↑k5])]})]] [yI N3,yB ([AV.sl 1 (ax l),ai ↑k3].length= [AV.sl 1 (ax l),ai ↑k5].length∧0< [AV.sl 1 (ax l),ai ↑k5].length) ⟨rfl,Nat.succ_pos _⟩]<|zB 1<|zP 1 [{}] [.aa [70,69,6,5,4,3,0,1] [1000000000000,6,4,3,5]] []<|bn 70 ((↑x3:Int) == (23:Int)) bE<|zq<|dB 79 ((↑x3:Int) == (22:Int)) fg<|zX (yH [(2,yV (aw (e1.prev+1)))]) [yR (aw (e1.prev+1)),yL 2 17]<|aL<|aq (⟨(),trivial,(zW [.aa [6,5,4,3,0,1] [6,4,3,5,1000000000000]])⟩)
  rw [if_neg d2] at hE
  by_cases d3:x3=21
  ·rw [if_pos d3] at hE
   obtain ⟨x4,xM⟩:∃x,x=gW l k4 3:=⟨_,rfl⟩
   obtain ⟨k6,FC⟩:∃x,x=dU l k4:=⟨_,rfl⟩
   have N4:=dH l k4 3 a4 hl (by decide) (by decide)
   have b4:=lG l k4 (n:=3) (by decide)
   rw [←xM,←FC] at hE
   rw [←xM,←FC] at N4
   rw [←xM] at b4
   have KM:=HC (n:=x4) aj
   generalize q6.getD x4 []=T6 at *
   clear xM FC
   injection hE with h1 h2
   subst h1 h2
   refine zQ 1 [yH [(1,{av:=some (ai ↑x3),ln:=[(1000000000000,1000000000000)],ho:=[(1000000000000,Row.mk 1 false true [AV.sl 1 (ax l),ai ↑k4])]})]] [yI N3,yB ([AV.sl 1 (ax l),ai ↑k3].length= [AV.sl 1 (ax l),ai ↑k4].length∧0< [AV.sl 1 (ax l),ai ↑k4].length) ⟨rfl,Nat.succ_pos _⟩]<|zB 1<|zP 1 [{}] [.aa [70,69,6,5,4,3,0,1] [1000000000000,6,4,3,5]] []<|bn 70 ((↑x3:Int) == (23:Int)) bE<|zq<|bn 79 ((↑x3:Int) == (22:Int)) bE<|zP 1 [{}] [.aa [85,79,70,69,6,5,4,3,0,1] [1000000000000,6,4,3,5]] []<|dB 85 ((↑x3:Int) == (21:Int)) fg<|zX (yH [(2,{av:=some (ai ↑x4),ln:=[(1000000000000,1000000000000)],ho:=[(1000000000000,Row.mk 1 false true [AV.sl 1 (ax l),ai ↑k5])]}),(3,{k:=x4}),(4,yV (cF T6))]) [yI N4,yB ([AV.sl 1 (ax l),ai ↑k4].length= [AV.sl 1 (ax l),ai ↑k5].length∧0< [AV.sl 1 (ax l),ai ↑k5].length) ⟨rfl,Nat.succ_pos _⟩,yR (↑x4:Int),yO (x4<3),yI KM,yL 4 17]<|aL<|aq (⟨(),trivial,(zW [.aa [6,5,4,3,0,1] [6,4,3,5,1000000000000]])⟩)
  rw [if_neg d3] at hE
  by_cases d4:x3=20
  ·rw [if_pos d4] at hE
   injection hE with h1 h2
   subst h1 h2
   refine zQ 1 [yH [(1,{av:=some (ai ↑x3),ln:=[(1000000000000,1000000000000)],ho:=[(1000000000000,Row.mk 1 false true [AV.sl 1 (ax l),ai ↑k5])]})]] [yI N3,yB ([AV.sl 1 (ax l),ai ↑k3].length= [AV.sl 1 (ax l),ai ↑k5].length∧0< [AV.sl 1 (ax l),ai ↑k5].length) ⟨rfl,Nat.succ_pos _⟩]<|zB 1<|zP 1 [{}] [.aa [70,69,6,5,4,3,0,1] [1000000000000,6,4,3,5]] []<|bn 70 ((↑x3:Int) == (23:Int)) bE<|zq<|bn 79 ((↑x3:Int) == (22:Int)) bE<|zP 1 [{}] [.aa [85,79,70,69,6,5,4,3,0,1] [1000000000000,6,4,3,5]] []<|bn 85 ((↑x3:Int) == (21:Int)) bE<|zq<|dB 93 ((↑x3:Int) == (20:Int)) fg<|zX {} [yL 16 17]<|aL<|aq (⟨(),trivial,(zW [.aa [6,5,4,3,0,1] [6,4,3,5,1000000000000]])⟩)
  rw [if_neg d4] at hE
  by_cases d5:x3=19
  ·rw [if_pos d5] at hE
   obtain ⟨x4,xM⟩:∃x,x=gW l k4 12:=⟨_,rfl⟩
   obtain ⟨k6,FC⟩:∃x,x=dU l k4:=⟨_,rfl⟩
   have N4:=dH l k4 12 a4 hl (by decide) (by decide)
   have b4:=lG l k4 (n:=12) (by decide)
   rw [←xM,←FC] at hE
   rw [←xM,←FC] at N4
   rw [←xM] at b4
   clear xM FC
   injection hE with h1 h2
   subst h1 h2
   have TS:IntKind.i64.wrap ((x4:Int)-1)=(x4:Int)-1:=by rw [IntKind.wrap_i64];omega
   refine zQ 1 [yH [(1,{av:=some (ai ↑x3),ln:=[(1000000000000,1000000000000)],ho:=[(1000000000000,Row.mk 1 false true [AV.sl 1 (ax l),ai ↑k4])]})]] [yI N3,yB ([AV.sl 1 (ax l),ai ↑k3].length= [AV.sl 1 (ax l),ai ↑k4].length∧0< [AV.sl 1 (ax l),ai ↑k4].length) ⟨rfl,Nat.succ_pos _⟩]<|zB 1<|zP 1 [{}] [.aa [70,69,6,5,4,3,0,1] [1000000000000,6,4,3,5]] []<|bn 70 ((↑x3:Int) == (23:Int)) bE<|zq<|bn 79 ((↑x3:Int) == (22:Int)) bE<|zP 1 [{}] [.aa [85,79,70,69,6,5,4,3,0,1] [1000000000000,6,4,3,5]] []<|bn 85 ((↑x3:Int) == (21:Int)) bE<|zq<|bn 93 ((↑x3:Int) == (20:Int)) bE<|zP 1 [{}] [.aa [96,93,85,79,70,69,6,5,4,3,0,1] [1000000000000,6,4,3,5]] []<|dB 96 ((↑x3:Int) == (19:Int)) fg<|zX (yH [(1,{av:=some (ai ↑x4),ln:=[(1000000000000,1000000000000)],ho:=[(1000000000000,Row.mk 1 false true [AV.sl 1 (ax l),ai ↑k5])]}),(2,yV (ai ((↑x4:Int)-1)))]) [yI N4,yB ([AV.sl 1 (ax l),ai ↑k4].length= [AV.sl 1 (ax l),ai ↑k5].length∧0< [AV.sl 1 (ax l),ai ↑k5].length) ⟨rfl,Nat.succ_pos _⟩,yN ((↑x4:Int)-1),yL 13 17]<|aL<|aq (⟨(),trivial,(zW [.aa [6,5,4,3,0,1] [6,4,3,5,1000000000000]])⟩)
  ·rw [if_neg d5] at hE
   injection hE with h1 h2
   subst h1 h2
   refine zQ 1 [yH [(1,{av:=some (ai ↑x3),ln:=[(1000000000000,1000000000000)],ho:=[(1000000000000,Row.mk 1 false true [AV.sl 1 (ax l),ai ↑k5])]})]] [yI N3,yB ([AV.sl 1 (ax l),ai ↑k3].length= [AV.sl 1 (ax l),ai ↑k5].length∧0< [AV.sl 1 (ax l),ai ↑k5].length) ⟨rfl,Nat.succ_pos _⟩]<|zB 1<|zP 1 [{}] [.aa [70,69,6,5,4,3,0,1] [1000000000000,6,4,3,5]] []<|bn 70 ((↑x3:Int) == (23:Int)) bE<|zq<|bn 79 ((↑x3:Int) == (22:Int)) bE<|zP 1 [{}] [.aa [85,79,70,69,6,5,4,3,0,1] [1000000000000,6,4,3,5]] []<|bn 85 ((↑x3:Int) == (21:Int)) bE<|bf.jH 1 [{}] bk (s':=AS.mk [(93,ao ((↑x3:Int) == (20:Int))),(94,ao ((↑x3:Int) == (20:Int))),(85,ao ((↑x3:Int) == (21:Int))),(79,ao ((↑x3:Int) == (22:Int))),(70,ao ((↑x3:Int) == (23:Int))),(69,ai ↑x3),(6,AV.addr 6 0),(5,AV.addr 5 0),(4,AV.addr 4 0),(3,AV.addr 3 0),(0,AV.addr 1000000000000 0),(1,AV.agg (bQ g))] [(1000000000000,Row.mk 1 false true [AV.sl 1 (ax l),ai ↑k5]),(6,Row.mk 1 false true (aF (dz x2))),(4,Row.mk 1 false true [ai 0,cQ,ai 0,AV.val (Value.string (ByteArray.mk #[])),ai 0,cQ,ai 0,cQ,cQ,AV.nil,AV.nil,AV.nil,ai 0,cQ,cQ,cQ,AV.nil]),(3,Row.mk 1 false true (List.map (aE 6) (List.map (aE 4) (List.map (aE 3) (bQ g))))),(5,Row.mk 1 false true (a7 e2))]) (C:=[]) bk trivial<|bn 93 ((↑x3:Int) == (20:Int)) bE<|zP 1 [{}] [.aa [96,93,85,79,70,69,6,5,4,3,0,1] [1000000000000,6,4,3,5]] []<|bn 96 ((↑x3:Int) == (19:Int)) bE<|zK<|aL<|aq (⟨(),trivial,(zW [.aa [6,5,4,3,0,1] [6,4,3,5,1000000000000]])⟩)
 intro u hu
 refine zP 1 [{}] [.aa [6,5,4,3,0,1] [4,6,3,5,1000000000000]] [yL 17 17]<|zR (zG [] [yR (Value.int .i64 e2.aB),yR (Value.int .u64 (wv e2.prev)),yR (Value.int .i64 e2.kind),yR (Value.string (ByteArray.mk e2.name.toArray)),yR (Value.int .i64 e2.kh),yR (Value.int .u64 (wv e2.kr)),yR (Value.int .i64 e2.bA),yR (Value.int .u64 (wv e2.dep.bZ)),yR (Value.int .u64 (wv e2.dep.peer)),yR (ag e2.dep.box),yR (ae ay e2.dep.af),yR (ah e2.dep.au),yR (Value.int .i64 e2.dep.need),yR (Value.int .u64 (wv e2.dep.target)),yR (Value.int .u64 (wv e2.bZ)),yR (Value.int .u64 (wv e2.target)),yR (ae aP e2.ak),yR [AV.sl 1 (ax l),ai ↑k5]])
end Go.Proofs.YtjgbhhnghedgdaaGreatDoor
