import Derived.Test.YtjgbhhnghedgdaaGreatDoorZfGrE3
set_option linter.all false
namespace Go.Proofs.YtjgbhhnghedgdaaGreatDoor
open Go.RowKit
set_option maxRecDepth 100000
set_option maxHeartbeats 4000000
def FF:List Int:=[1,1,1,2,3,4,4,5,5,0,6]
def r5:List (List UInt8):=[[],[255],[109,49]]
def RV:oD:=⟨0,0,[],[],[],0,0⟩
def qZ (g:fG) (kd:Int):dj:=⟨g.aC+1,g.head,kd,[],0,0,0,RV,0,0,[]⟩
def Ap (l:List Int) (g:fG) (kd:Int) (n k:Nat):dj×Nat :=
 if kd=1 then ({qZ g kd with name:=(dv n).name,kh:=(dv n).h,kr:=(dv n).r},k)
 else if kd=2 then ({qZ g kd with name:=(dv n).name},k)
 else if kd=3 then ({qZ g kd with bm:=ik l k 10},dW l k)
 else if kd=4 then ({qZ g kd with dep:=Pr l g k},Qm l g k)
 else if kd=5 then (if g.aR.length=0 then ({qZ g kd with target:=u64 (ik l k 5)},dW l k) else ({qZ g kd with target:=u64 (ik l k 5),cm:=(g.aR.getD (ik l (dW l k) g.aR.length) default).cm},dW l (dW l k)))
 else (qZ g kd,k)
def Cz (l:List Int) (s:dj×Nat):dj×Nat :=
 if ik l s.2 24=23 then ({s.1 with aC:=s.1.aC+((ik l (dW l s.2) 3:Int)-1)},dW l (dW l s.2))
 else if ik l s.2 24=22 then ({s.1 with prev:=s.1.prev+1},dW l s.2)
 else if ik l s.2 24=21 then ({s.1 with name:=r5.getD (ik l (dW l s.2) 3) []},dW l (dW l s.2))
 else if ik l s.2 24=20 then ({s.1 with target:=7},dW l s.2)
 else if ik l s.2 24=19 then ({s.1 with dep:={s.1.dep with need:=(ik l (dW l s.2) 12:Int)-1}},dW l (dW l s.2))
 else (s.1,dW l s.2)
def Ut (l:List Int) (g:fG) (k:Nat):dj×Nat:=Ap l g (FF.getD (ik l k 11) 0) (ik l (dW l k) 10) (dW l (dW l k))
def tS (l:List Int) (g:fG) (k:Nat):dj×Nat:=Cz l (Ut l g k)
def Xm:List (Nat×Nat):=[(9,1),(10,1),(11,1),(16,4)]
theorem Jm {n:Nat} (h:n<11):(ax [1,1,1,2,3,4,4,5,5,0,6])[n]?=some (ai (FF.getD n 0)):=by
 rcases n with _|_|_|_|_|_|_|_|_|_|_|n<;>first|rfl|omega
theorem I7 {n:Nat} (h:n<3):(r5.map di)[n]?=some (di (r5.getD n [])):=by
 rw [List.getElem?_map,List.getD_eq_getElem?_getD,List.getElem?_eq_getElem (by exact h)];rfl
theorem KH {l:List Int} (g:fG) {k:Nat} (h:k≤l.length):Qm l g k≤l.length:=dU (dU (dU (dU (dU (ra g h 10).at_))))
theorem HA (l:List Int) (k k1 k2 x1 x2:Nat) (kd:Int) (S:dj×Nat) (g:fG) (hl:l.length≤9223372036854775807) (hG:ni g) (hP:S=Ap l g kd x2 k2) (b1:x1<11) (b2:x2<10) (a2:k2≤l.length)
  (N1:gw Tryz.prog 24 [.addr 1000000000000 0,ai 11] (AL l k) (ai x1) (AL l k1)) (N2:gw Tryz.prog 24 [.addr 1000000000000 0,ai 10] (AL l k1) (ai x2) (AL l k2))
  (P7:(ax [1,1,1,2,3,4,4,5,5,0,6])[x1]?=some (ai kd)):gw Tryz.prog 16 [.addr 1000000000000 0,.agg (de g)] (AL l k) (.agg (aG (Cz l S).1)) (AL l (Cz l S).2):=by
 obtain ⟨g1,g2,g3,g4,g5,g6⟩:=hG
 have qf:=fC x2 ag
 have hw:IntKind.i64.wrap (g.aC+1)=g.aC+1:=by rw [IntKind.wrap_i64];omega
 unfold AL at *
 refine nw Tryz.func16 104<|zq<|zS<|zA 12 [7] [11] [(2,yV (ai (g.aC+1))),(5,yV (AV.arr (ax [(1:Int),(1:Int),(1:Int),(2:Int),(3:Int),(4:Int),(4:Int),(5:Int),(5:Int),(0:Int),(6:Int)]))),(7,yE [(1000000000000,1000000000000)] N1),(8,{k:=x1}),(9,yV (ai kd))] [yN (g.aC+1),yR [ai 1,ai 1,ai 1,ai 2,ai 3,ai 4,ai 4,ai 5,ai 5,ai 0,ai 6],yI N1,yB ([AV.sl 1 (ax l),ai ↑k].length= [AV.sl 1 (ax l),ai ↑k1].length∧0< [AV.sl 1 (ax l),ai ↑k1].length) ⟨rfl,Nat.succ_pos _⟩,yR (AV.addr 3 0),yR (ai g.aC),yR (ai (g.aC+1)),yN (g.aC+1),yR (AV.addr 3 1),yR (aw g.head),yR (AV.sl 1 (ax [(1:Int),(1:Int),(1:Int),(2:Int),(3:Int),(4:Int),(4:Int),(5:Int),(5:Int),(0:Int),(6:Int)])),yR [ai 1,ai 1,ai 1,ai 2,ai 3,ai 4,ai 4,ai 5,ai 5,ai 0,ai 6],yR (↑x1:Int),yI b1,yI P7,yL 17 17]<|al<|bf.pA (bO.Ot 5 Xm bC)<|zP 1 [yH [(1,yE [(1000000000000,1000000000000)] N2),(2,yC qf)]] [.aa [6,5,4,3,0,1] [6,1000000000000,5,4,3]] [yI N2,yB ([AV.sl 1 (ax l),ai ↑k1].length= [AV.sl 1 (ax l),ai ↑k2].length∧0< [AV.sl 1 (ax l),ai ↑k2].length) ⟨rfl,Nat.succ_pos _⟩,yI qf,yL 4 4] (bf.pr (fun (u:Unit)=>(⟨[(6,AV.addr 6 0),(5,AV.addr 5 0),(4,AV.addr 4 0),(3,AV.addr 3 0),(0,AV.addr 1000000000000 0),(1,AV.agg (de g))],[(6,⟨1,false,true,(aN (dv x2))⟩),(4,⟨1,false,true,[ai 0,dY,ai 0,AV.val (Value.string (ByteArray.mk #[])),ai 0,dY,ai 0,dY,dY,AV.nil,AV.nil,AV.nil,ai 0,dY,dY,dY,AV.nil]⟩),(3,⟨1,false,true,List.map (aH 6) (List.map (aH 4) (List.map (aH 3) (de g)))⟩),(5,⟨1,false,true,aG S.1⟩),(1000000000000,⟨1,false,true,[.sl 1 (ax l),ai S.2]⟩)]⟩:AS)) (fun u=>(S.2≤l.length∧S.1.aC=g.aC+1)) bC ?_ ?_)
 ·by_cases c1:kd=1
  ·have hS:S=({qZ g kd with name:=(dv x2).name,kh:=(dv x2).h,kr:=(dv x2).r},k2):=hP.trans (if_pos c1)
   clear hP;subst hS
   refine zq<|zB 0<|zP 1 [{}] [.aa [23,22,6,5,4,3,0,1] [6,1000000000000,5,4,3]] []<|du 23 (kd == (1:Int)) fh<|yw 6 [5] [] [yL 4 17,yR (AV.addr 6 1),yR (AV.agg [ai ((dv x2).h),aw ((dv x2).r)]),yL 6 17]<|aK<|al (⟨(),⟨a2,rfl⟩,(zW [.aa [6,5,4,3,0,1] [6,4,3,5,1000000000000]])⟩)
  by_cases c2:kd=2
  ·have hS:S=({qZ g kd with name:=(dv x2).name},k2):=by rw [hP];unfold Ap;rw [if_neg c1,if_pos c2]
   clear hP;subst hS
   refine zq<|zB 0<|zP 1 [{}] [.aa [23,22,6,5,4,3,0,1] [6,1000000000000,5,4,3]] []<|bj 23 (kd == (1:Int)) bx<|zq<|du 31 (kd == (2:Int)) fh<|zX {} [yL 4 17]<|aK<|al (⟨(),⟨a2,rfl⟩,(zW [.aa [6,5,4,3,0,1] [6,4,3,5,1000000000000]])⟩)
  by_cases c3:kd=3
  ·obtain ⟨x3,HV⟩:∃x,x=ik l k2 10:=⟨_,rfl⟩
   obtain ⟨k3,DS⟩:∃x,x=dW l k2:=⟨_,rfl⟩
   have N3:=dL l k2 10 a2 hl (by decide) (by decide)
   have a3:=dU a2
   have hS:S=({qZ g kd with bm:=ik l k2 10},dW l k2):=by rw [hP];unfold Ap;rw [if_neg c1,if_neg c2,if_pos c3]
   rw [←HV,←DS] at hS
   rw [←HV,←DS] at N3
   rw [←DS] at a3
   clear hP HV DS;subst hS
   refine zq<|zB 0<|zP 1 [{}] [.aa [23,22,6,5,4,3,0,1] [6,1000000000000,5,4,3]] []<|bj 23 (kd == (1:Int)) bx<|zq<|bj 31 (kd == (2:Int)) bx<|zq<|du 36 (kd == (3:Int)) fh<|zX (yH [(1,yE [(1000000000000,1000000000000)] N3)]) [yI N3,yB ([AV.sl 1 (ax l),ai ↑k2].length= [AV.sl 1 (ax l),ai ↑k3].length∧0< [AV.sl 1 (ax l),ai ↑k3].length) ⟨rfl,Nat.succ_pos _⟩,yL 7 17]<|aK<|al (⟨(),⟨a3,rfl⟩,(zW [.aa [6,5,4,3,0,1] [6,4,3,5,1000000000000]])⟩)
  by_cases c4:kd=4
  ·have N3:=At l k2 g a2 hl g3
   unfold AL at N3
   have a3:=KH g a2
   have hS:S=({qZ g kd with dep:=Pr l g k2},Qm l g k2):=by rw [hP];unfold Ap;rw [if_neg c1,if_neg c2,if_neg c3,if_pos c4]
   obtain ⟨D,hD⟩:∃x,x=Pr l g k2:=⟨_,rfl⟩
   obtain ⟨k3,DS⟩:∃x,x=Qm l g k2:=⟨_,rfl⟩
   rw [←hD,←DS] at hS
   rw [←hD,←DS] at N3
   rw [←DS] at a3
   clear hP hD DS;subst hS
   refine zq<|zB 0<|zP 1 [{}] [.aa [23,22,6,5,4,3,0,1] [6,1000000000000,5,4,3]] []<|bj 23 (kd == (1:Int)) bx<|zq<|bj 31 (kd == (2:Int)) bx<|zq<|bj 36 (kd == (3:Int)) bx<|zP 1 [{}] [.aa [41,36,31,32,23,22,6,5,4,3,0,1] [6,1000000000000,5,4,3]] []<|du 41 (kd == (4:Int)) fh<|zX (yH [(2,yE [(1000000000000,1000000000000)] N3)]) [yI N3,yB ([AV.sl 1 (ax l),ai ↑k2].length= [AV.sl 1 (ax l),ai ↑k3].length∧0< [AV.sl 1 (ax l),ai ↑k3].length) ⟨rfl,Nat.succ_pos _⟩,yL 14 17]<|aK<|al (⟨(),⟨a3,rfl⟩,(zW [.aa [6,5,4,3,0,1] [6,4,3,5,1000000000000]])⟩)
  by_cases c5:kd=5
  ·obtain ⟨x3,HV⟩:∃x,x=ik l k2 5:=⟨_,rfl⟩
   obtain ⟨k3,DS⟩:∃x,x=dW l k2:=⟨_,rfl⟩
   have N3:=dL l k2 5 a2 hl (by decide) (by decide)
   have a3:=dU a2
   have hS:S=(if g.aR.length=0 then ({qZ g kd with target:=u64 (ik l k2 5)},dW l k2) else ({qZ g kd with target:=u64 (ik l k2 5),cm:=(g.aR.getD (ik l (dW l k2) g.aR.length) default).cm},dW l (dW l k2))):=by rw [hP];unfold Ap;rw [if_neg c1,if_neg c2,if_neg c3,if_neg c4,if_pos c5]
   rw [←HV,←DS] at hS
   rw [←HV,←DS] at N3
   rw [←DS] at a3
   have ud:(ae bk g.aR).length=g.aR.length*7:=aA (e:=7) (fun _=>rfl) ..
   by_cases c6:g.aR.length=0
   ·rw [if_pos c6] at hS
    clear hP HV DS;subst hS
    refine zq<|zB 0<|zP 1 [{}] [.aa [23,22,6,5,4,3,0,1] [6,1000000000000,5,4,3]] []<|bj 23 (kd == (1:Int)) bx<|zq<|bj 31 (kd == (2:Int)) bx<|zq<|bj 36 (kd == (3:Int)) bx<|zP 1 [{}] [.aa [41,36,31,32,23,22,6,5,4,3,0,1] [6,1000000000000,5,4,3]] []<|bj 41 (kd == (4:Int)) bx<|zq<|du 47 (kd == (5:Int)) fh<|zP 2 [yH [(1,yE [(1000000000000,1000000000000)] N3),(2,yV (aw (u64 (↑x3:Int))))],yH [(2,{k:=g.aR.length})]] [.aa [56,47,41,36,31,32,23,22,6,5,4,3,0,1] [5,1000000000000,6,4,3]] [yI N3,yB ([AV.sl 1 (ax l),ai ↑k2].length= [AV.sl 1 (ax l),ai ↑k3].length∧0< [AV.sl 1 (ax l),ai ↑k3].length) ⟨rfl,Nat.succ_pos _⟩,yI (a8 ((↑x3:Int))),yL 16 17,yI ud]<|dm 56 ((↑g.aR.length:Int)>0)<|zK<|aK<|al (⟨(),⟨a3,rfl⟩,(zW [.aa [6,5,4,3,0,1] [6,4,3,5,1000000000000]])⟩)
   ·rw [if_neg c6] at hS
    have N4:=dL l k3 g.aR.length a3 hl ag ag
    have a4:=dU a3
    have b4:=l3 l k3 (n:=g.aR.length) ag
    obtain ⟨x4,zw⟩:∃x,x=ik l k3 g.aR.length:=⟨_,rfl⟩
    obtain ⟨k4,B1⟩:∃x,x=dW l k3:=⟨_,rfl⟩
    rw [←zw,←B1] at hS
    rw [←zw,←B1] at N4
    rw [←B1] at a4
    rw [←zw] at b4
    have ic:=Ar (l:=g.aR) (i:=x4) ag
    clear hP HV DS zw B1;subst hS
    refine zq<|zB 0<|zP 1 [{}] [.aa [23,22,6,5,4,3,0,1] [6,1000000000000,5,4,3]] []<|bj 23 (kd == (1:Int)) bx<|zq<|bj 31 (kd == (2:Int)) bx<|zq<|bj 36 (kd == (3:Int)) bx<|zP 1 [{}] [.aa [41,36,31,32,23,22,6,5,4,3,0,1] [6,1000000000000,5,4,3]] []<|bj 41 (kd == (4:Int)) bx<|zq<|du 47 (kd == (5:Int)) fh<|zP 2 [yH [(1,yE [(1000000000000,1000000000000)] N3),(2,yV (aw (u64 (↑x3:Int))))],yH [(2,{k:=g.aR.length})]] [.aa [56,47,41,36,31,32,23,22,6,5,4,3,0,1] [5,1000000000000,6,4,3]] [yI N3,yB ([AV.sl 1 (ax l),ai ↑k2].length= [AV.sl 1 (ax l),ai ↑k3].length∧0< [AV.sl 1 (ax l),ai ↑k3].length) ⟨rfl,Nat.succ_pos _⟩,yI (a8 ((↑x3:Int))),yL 16 17,yI ud]<|gX 56 ((↑g.aR.length:Int)>0)<|yw 7 [6] [(5,{k:=g.aR.length}),(6,yE [(1000000000000,1000000000000)] N4),(7,{k:=x4}),(9,yV (aw ((g.aR.getD x4 default).cm)))] [yI ud,yI N4,yB ([AV.sl 1 (ax l),ai ↑k3].length= [AV.sl 1 (ax l),ai ↑k4].length∧0< [AV.sl 1 (ax l),ai ↑k4].length) ⟨rfl,Nat.succ_pos _⟩,yR (AV.addr 3 4),yR (AV.sl 7 (ae bk g.aR)),yR (↑x4:Int),yO (x4*7<(ae bk g.aR).length),yA bk g.aR x4 0,yL 15 17]<|aK<|al (⟨(),⟨a4,rfl⟩,(zW [.aa [6,5,4,3,0,1] [6,4,3,5,1000000000000]])⟩)
  ·have hS:S=(qZ g kd,k2):=by rw [hP];unfold Ap;rw [if_neg c1,if_neg c2,if_neg c3,if_neg c4,if_neg c5]
   clear hP;subst hS
   refine zq<|zB 0<|zP 1 [{}] [.aa [23,22,6,5,4,3,0,1] [6,1000000000000,5,4,3]] []<|bj 23 (kd == (1:Int)) bx<|zq<|bj 31 (kd == (2:Int)) bx<|zq<|bj 36 (kd == (3:Int)) bx<|zP 1 [{}] [.aa [41,36,31,32,23,22,6,5,4,3,0,1] [6,1000000000000,5,4,3]] []<|bj 41 (kd == (4:Int)) bx<|zq<|bj 47 (kd == (5:Int)) bx<|zK<|aK<|al (⟨(),⟨a2,rfl⟩,(zW [.aa [6,5,4,3,0,1] [6,4,3,5,1000000000000]])⟩)
 intro u hu
 clear hP N1 N2 P7 qf
 obtain ⟨e1,k3⟩:=S
 obtain ⟨hu,WG⟩:=hu
 simp only at hu WG ⊢
 obtain ⟨x3,HV⟩:∃x,x=ik l k3 24:=⟨_,rfl⟩
 obtain ⟨k4,B1⟩:∃x,x=dW l k3:=⟨_,rfl⟩
 have N3:=dL l k3 24 hu hl (by decide) (by decide)
 have a4:=dU hu
 rw [←HV,←B1] at N3
 rw [←B1] at a4
 have hE:Cz l (e1,k3)=if x3=23 then ({e1 with aC:=e1.aC+((ik l k4 3:Int)-1)},dW l k4) else if x3=22 then ({e1 with prev:=e1.prev+1},k4) else if x3=21 then ({e1 with name:=r5.getD (ik l k4 3) []},dW l k4) else if x3=20 then ({e1 with target:=7},k4) else if x3=19 then ({e1 with dep:={e1.dep with need:=(ik l k4 12:Int)-1}},dW l k4) else (e1,k4):=by unfold Cz;rw [HV,B1]
 clear HV B1
 generalize hT:Cz l (e1,k3)=T at *
 obtain ⟨e2,k5⟩:=T
 simp only
 clear hT
 refine bf.pr (fun (u:Unit)=>(⟨[(6,AV.addr 6 0),(5,AV.addr 5 0),(4,AV.addr 4 0),(3,AV.addr 3 0),(0,AV.addr 1000000000000 0),(1,AV.agg (de g))],[(6,⟨1,false,true,(aN (dv x2))⟩),(4,⟨1,false,true,[ai 0,dY,ai 0,AV.val (Value.string (ByteArray.mk #[])),ai 0,dY,ai 0,dY,dY,AV.nil,AV.nil,AV.nil,ai 0,dY,dY,dY,AV.nil]⟩),(3,⟨1,false,true,List.map (aH 6) (List.map (aH 4) (List.map (aH 3) (de g)))⟩),(5,⟨1,false,true,aG e2⟩),(1000000000000,⟨1,false,true,[.sl 1 (ax l),ai k5]⟩)]⟩:AS)) (fun u=>(True)) bC ?_ ?_
 ·by_cases d1:x3=23
  ·rw [if_pos d1] at hE
   obtain ⟨x4,zw⟩:∃x,x=ik l k4 3:=⟨_,rfl⟩
   obtain ⟨k6,G9⟩:∃x,x=dW l k4:=⟨_,rfl⟩
   have N4:=dL l k4 3 a4 hl (by decide) (by decide)
   have b4:=l3 l k4 (n:=3) (by decide)
   rw [←zw,←G9] at hE
   rw [←zw,←G9] at N4
   rw [←zw] at b4
   clear zw G9
   injection hE with h1 h2
   subst h1 h2
   have VF:IntKind.i64.wrap ((x4:Int)-1)=(x4:Int)-1:=by rw [IntKind.wrap_i64];omega
   have Xv:IntKind.i64.wrap (e1.aC+((x4:Int)-1))=e1.aC+((x4:Int)-1):=by rw [IntKind.wrap_i64];omega
   refine zQ 1 [yH [(1,yE [(1000000000000,1000000000000)] N3)]] [yI N3,yB ([AV.sl 1 (ax l),ai ↑k3].length= [AV.sl 1 (ax l),ai ↑k4].length∧0< [AV.sl 1 (ax l),ai ↑k4].length) ⟨rfl,Nat.succ_pos _⟩]<|zB 1<|zP 1 [{}] [.aa [70,69,6,5,4,3,0,1] [1000000000000,6,4,3,5]] []<|du 70 ((↑x3:Int) == (23:Int)) fh<|yw 5 [3] [(3,yE [(1000000000000,1000000000000)] N4),(4,yV (ai ((↑x4:Int)-1))),(5,yV (ai (e1.aC+((↑x4:Int)-1))))] [yI N4,yB ([AV.sl 1 (ax l),ai ↑k4].length= [AV.sl 1 (ax l),ai ↑k5].length∧0< [AV.sl 1 (ax l),ai ↑k5].length) ⟨rfl,Nat.succ_pos _⟩,yR (AV.addr 5 0),yR (ai e1.aC),yN ((↑x4:Int)-1),yN (e1.aC+((↑x4:Int)-1)),yL 1 17]<|aK<|al (⟨(),trivial,(zW [.aa [6,5,4,3,0,1] [6,4,3,5,1000000000000]])⟩)
  rw [if_neg d1] at hE
  by_cases d2:x3=22
  ·rw [if_pos d2] at hE
   injection hE with h1 h2
   subst h1 h2
   refine zQ 1 [yH [(1,yE [(1000000000000,1000000000000)] N3)]] [yI N3,yB ([AV.sl 1 (ax l),ai ↑k3].length= [AV.sl 1 (ax l),ai ↑k5].length∧0< [AV.sl 1 (ax l),ai ↑k5].length) ⟨rfl,Nat.succ_pos _⟩]<|zB 1<|zP 1 [{}] [.aa [70,69,6,5,4,3,0,1] [1000000000000,6,4,3,5]] []<|bj 70 ((↑x3:Int) == (23:Int)) bx<|zq<|du 79 ((↑x3:Int) == (22:Int)) fh<|zX (yH [(2,yV (aw (e1.prev+1)))]) [yR (aw (e1.prev+1)),yL 2 17]<|aK<|al (⟨(),trivial,(zW [.aa [6,5,4,3,0,1] [6,4,3,5,1000000000000]])⟩)
  rw [if_neg d2] at hE
  by_cases d3:x3=21
  ·rw [if_pos d3] at hE
   obtain ⟨x4,zw⟩:∃x,x=ik l k4 3:=⟨_,rfl⟩
   obtain ⟨k6,G9⟩:∃x,x=dW l k4:=⟨_,rfl⟩
   have N4:=dL l k4 3 a4 hl (by decide) (by decide)
   have b4:=l3 l k4 (n:=3) (by decide)
   rw [←zw,←G9] at hE
   rw [←zw,←G9] at N4
   rw [←zw] at b4
   have Mg:=I7 (n:=x4) ag
   generalize r5.getD x4 []=VT at *
   clear zw G9
   injection hE with h1 h2
   subst h1 h2
   refine zQ 1 [yH [(1,yE [(1000000000000,1000000000000)] N3)]] [yI N3,yB ([AV.sl 1 (ax l),ai ↑k3].length= [AV.sl 1 (ax l),ai ↑k4].length∧0< [AV.sl 1 (ax l),ai ↑k4].length) ⟨rfl,Nat.succ_pos _⟩]<|zB 1<|zP 1 [{}] [.aa [70,69,6,5,4,3,0,1] [1000000000000,6,4,3,5]] []<|bj 70 ((↑x3:Int) == (23:Int)) bx<|zq<|bj 79 ((↑x3:Int) == (22:Int)) bx<|zP 1 [{}] [.aa [85,79,70,69,6,5,4,3,0,1] [1000000000000,6,4,3,5]] []<|du 85 ((↑x3:Int) == (21:Int)) fh<|zX (yH [(2,yE [(1000000000000,1000000000000)] N4),(3,{k:=x4}),(4,yV (di VT))]) [yI N4,yB ([AV.sl 1 (ax l),ai ↑k4].length= [AV.sl 1 (ax l),ai ↑k5].length∧0< [AV.sl 1 (ax l),ai ↑k5].length) ⟨rfl,Nat.succ_pos _⟩,yR (↑x4:Int),yO (x4<3),yI Mg,yL 4 17]<|aK<|al (⟨(),trivial,(zW [.aa [6,5,4,3,0,1] [6,4,3,5,1000000000000]])⟩)
  rw [if_neg d3] at hE
  by_cases d4:x3=20
  ·rw [if_pos d4] at hE
   injection hE with h1 h2
   subst h1 h2
   refine zQ 1 [yH [(1,yE [(1000000000000,1000000000000)] N3)]] [yI N3,yB ([AV.sl 1 (ax l),ai ↑k3].length= [AV.sl 1 (ax l),ai ↑k5].length∧0< [AV.sl 1 (ax l),ai ↑k5].length) ⟨rfl,Nat.succ_pos _⟩]<|zB 1<|zP 1 [{}] [.aa [70,69,6,5,4,3,0,1] [1000000000000,6,4,3,5]] []<|bj 70 ((↑x3:Int) == (23:Int)) bx<|zq<|bj 79 ((↑x3:Int) == (22:Int)) bx<|zP 1 [{}] [.aa [85,79,70,69,6,5,4,3,0,1] [1000000000000,6,4,3,5]] []<|bj 85 ((↑x3:Int) == (21:Int)) bx<|zq<|du 93 ((↑x3:Int) == (20:Int)) fh<|zX {} [yL 16 17]<|aK<|al (⟨(),trivial,(zW [.aa [6,5,4,3,0,1] [6,4,3,5,1000000000000]])⟩)
  rw [if_neg d4] at hE
  by_cases d5:x3=19
  ·rw [if_pos d5] at hE
   obtain ⟨x4,zw⟩:∃x,x=ik l k4 12:=⟨_,rfl⟩
   obtain ⟨k6,G9⟩:∃x,x=dW l k4:=⟨_,rfl⟩
   have N4:=dL l k4 12 a4 hl (by decide) (by decide)
   have b4:=l3 l k4 (n:=12) (by decide)
   rw [←zw,←G9] at hE
   rw [←zw,←G9] at N4
   rw [←zw] at b4
   clear zw G9
   injection hE with h1 h2
   subst h1 h2
   have VF:IntKind.i64.wrap ((x4:Int)-1)=(x4:Int)-1:=by rw [IntKind.wrap_i64];omega
   refine zQ 1 [yH [(1,yE [(1000000000000,1000000000000)] N3)]] [yI N3,yB ([AV.sl 1 (ax l),ai ↑k3].length= [AV.sl 1 (ax l),ai ↑k4].length∧0< [AV.sl 1 (ax l),ai ↑k4].length) ⟨rfl,Nat.succ_pos _⟩]<|zB 1<|zP 1 [{}] [.aa [70,69,6,5,4,3,0,1] [1000000000000,6,4,3,5]] []<|bj 70 ((↑x3:Int) == (23:Int)) bx<|zq<|bj 79 ((↑x3:Int) == (22:Int)) bx<|zP 1 [{}] [.aa [85,79,70,69,6,5,4,3,0,1] [1000000000000,6,4,3,5]] []<|bj 85 ((↑x3:Int) == (21:Int)) bx<|zq<|bj 93 ((↑x3:Int) == (20:Int)) bx<|zP 1 [{}] [.aa [96,93,85,79,70,69,6,5,4,3,0,1] [1000000000000,6,4,3,5]] []<|du 96 ((↑x3:Int) == (19:Int)) fh<|zX (yH [(1,yE [(1000000000000,1000000000000)] N4),(2,yV (ai ((↑x4:Int)-1)))]) [yI N4,yB ([AV.sl 1 (ax l),ai ↑k4].length= [AV.sl 1 (ax l),ai ↑k5].length∧0< [AV.sl 1 (ax l),ai ↑k5].length) ⟨rfl,Nat.succ_pos _⟩,yN ((↑x4:Int)-1),yL 13 17]<|aK<|al (⟨(),trivial,(zW [.aa [6,5,4,3,0,1] [6,4,3,5,1000000000000]])⟩)
  ·rw [if_neg d5] at hE
   injection hE with h1 h2
   subst h1 h2
   refine zQ 1 [yH [(1,yE [(1000000000000,1000000000000)] N3)]] [yI N3,yB ([AV.sl 1 (ax l),ai ↑k3].length= [AV.sl 1 (ax l),ai ↑k5].length∧0< [AV.sl 1 (ax l),ai ↑k5].length) ⟨rfl,Nat.succ_pos _⟩]<|zB 1<|zP 1 [{}] [.aa [70,69,6,5,4,3,0,1] [1000000000000,6,4,3,5]] []<|bj 70 ((↑x3:Int) == (23:Int)) bx<|zq<|bj 79 ((↑x3:Int) == (22:Int)) bx<|zP 1 [{}] [.aa [85,79,70,69,6,5,4,3,0,1] [1000000000000,6,4,3,5]] []<|bj 85 ((↑x3:Int) == (21:Int)) bx<|zq<|bj 93 ((↑x3:Int) == (20:Int)) bx<|zP 1 [{}] [.aa [96,93,85,79,70,69,6,5,4,3,0,1] [1000000000000,6,4,3,5]] []<|bj 96 ((↑x3:Int) == (19:Int)) bx<|zK<|aK<|al (⟨(),trivial,(zW [.aa [6,5,4,3,0,1] [6,4,3,5,1000000000000]])⟩)
 intro u hu
 refine zP 1 [{}] [.aa [6,5,4,3,0,1] [4,6,3,5,1000000000000]] [yL 17 17]<|zR (zG [] [yR (Value.int .i64 e2.aC),yR (Value.int .u64 (wv e2.prev)),yR (Value.int .i64 e2.kind),yR (Value.string (ByteArray.mk e2.name.toArray)),yR (Value.int .i64 e2.kh),yR (Value.int .u64 (wv e2.kr)),yR (Value.int .i64 e2.bm),yR (Value.int .u64 (wv e2.dep.cm)),yR (Value.int .u64 (wv e2.dep.peer)),yR (ah e2.dep.box),yR (ae au e2.dep.af),yR (aj e2.dep.ay),yR (Value.int .i64 e2.dep.need),yR (Value.int .u64 (wv e2.dep.target)),yR (Value.int .u64 (wv e2.cm)),yR (Value.int .u64 (wv e2.target)),yR (ae aW e2.ak),yR [AV.sl 1 (ax l),ai ↑k5]])
end Go.Proofs.YtjgbhhnghedgdaaGreatDoor
