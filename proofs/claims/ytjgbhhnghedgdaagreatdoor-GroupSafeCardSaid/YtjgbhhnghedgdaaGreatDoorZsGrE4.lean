import Derived.Test.YtjgbhhnghedgdaaGreatDoorZsGrE3
set_option linter.all false
namespace Go.Proofs.YtjgbhhnghedgdaaGreatDoor
open Go.RowKit
set_option maxRecDepth 100000
set_option maxHeartbeats 4000000
def DI:List Int:=[1,1,1,2,3,4,4,5,5,0,6]
def qI:List (List UInt8):=[[],[255],[109,49]]
def PT:nC:=⟨0,0,[],[],[],0,0⟩
def pT (g:fL) (kd:Int):eK:=⟨g.aC+1,g.head,kd,[],0,0,0,PT,0,0,[]⟩
def xV (l:List Int) (g:fL) (kd:Int) (n k:Nat):eK×Nat :=
 if kd=1 then ({pT g kd with name:=(dq n).name,kh:=(dq n).h,kr:=(dq n).r},k)
 else if kd=2 then ({pT g kd with name:=(dq n).name},k)
 else if kd=3 then ({pT g kd with bB:=gC l k 10},dv l k)
 else if kd=4 then ({pT g kd with dep:=Nq l g k},Ol l g k)
 else if kd=5 then (if g.aF.length=0 then ({pT g kd with target:=u64 (gC l k 5)},dv l k) else ({pT g kd with target:=u64 (gC l k 5),cm:=(g.aF.getD (gC l (dv l k) g.aF.length) default).cm},dv l (dv l k)))
 else (pT g kd,k)
def AK (l:List Int) (s:eK×Nat):eK×Nat :=
 if gC l s.2 24=23 then ({s.1 with aC:=s.1.aC+((gC l (dv l s.2) 3:Int)-1)},dv l (dv l s.2))
 else if gC l s.2 24=22 then ({s.1 with prev:=s.1.prev+1},dv l s.2)
 else if gC l s.2 24=21 then ({s.1 with name:=qI.getD (gC l (dv l s.2) 3) []},dv l (dv l s.2))
 else if gC l s.2 24=20 then ({s.1 with target:=7},dv l s.2)
 else if gC l s.2 24=19 then ({s.1 with dep:={s.1.dep with need:=(gC l (dv l s.2) 12:Int)-1}},dv l (dv l s.2))
 else (s.1,dv l s.2)
def Sv (l:List Int) (g:fL) (k:Nat):eK×Nat:=xV l g (DI.getD (gC l k 11) 0) (gC l (dv l k) 10) (dv l (dv l k))
def KW (l:List Int) (g:fL) (k:Nat):eK×Nat:=AK l (Sv l g k)
def Vy:List (Nat×Nat):=[(9,1),(10,1),(11,1),(16,4)]
theorem Hp {n:Nat} (h:n<11):(ax [1,1,1,2,3,4,4,5,5,0,6])[n]?=some (ai (DI.getD n 0)):=by
 rcases n with _|_|_|_|_|_|_|_|_|_|_|n<;>first|rfl|omega
theorem G9 {n:Nat} (h:n<3):(qI.map dw)[n]?=some (dw (qI.getD n [])):=by
 rw [List.getElem?_map,List.getD_eq_getElem?_getD,List.getElem?_eq_getElem (by exact h)];rfl
theorem II {l:List Int} (g:fL) {k:Nat} (h:k≤l.length):Ol l g k≤l.length:=dj (dj (dj (dj (dj (p7 g h 10).at_))))
theorem Fw (l:List Int) (k k1 k2 x1 x2:Nat) (kd:Int) (S:eK×Nat) (g:fL) (hl:l.length≤9223372036854775807) (hG:oZ g) (hP:S=xV l g kd x2 k2) (b1:x1<11) (b2:x2<10) (a2:k2≤l.length)
  (N1:gb Tryz.prog 24 [.addr 1000000000000 0,ai 11] (Ec l k) (ai x1) (Ec l k1)) (N2:gb Tryz.prog 24 [.addr 1000000000000 0,ai 10] (Ec l k1) (ai x2) (Ec l k2))
  (NZ:(ax [1,1,1,2,3,4,4,5,5,0,6])[x1]?=some (ai kd)):gb Tryz.prog 16 [.addr 1000000000000 0,.agg (bW g)] (Ec l k) (.agg (bk (AK l S).1)) (Ec l (AK l S).2):=by
 obtain ⟨g1,g2,g3,g4,g5,g6⟩:=hG
 have yj:=fy x2 ah
 have hw:IntKind.i64.wrap (g.aC+1)=g.aC+1:=by rw [IntKind.wrap_i64];omega
 unfold Ec at *
 refine mN Tryz.func16 104<|zq<|zS<|zA 12 [7] [11] [(2,yV (ai (g.aC+1))),(5,yV (AV.arr (ax [(1:Int),(1:Int),(1:Int),(2:Int),(3:Int),(4:Int),(4:Int),(5:Int),(5:Int),(0:Int),(6:Int)]))),(7,{av:=some (ai ↑x1),ln:=[(1000000000000,1000000000000)],ho:=[(1000000000000,Row.mk 1 false true [AV.sl 1 (ax l),ai ↑k1])]}),(8,{k:=x1}),(9,yV (ai kd))] [yN (g.aC+1),yR [ai 1,ai 1,ai 1,ai 2,ai 3,ai 4,ai 4,ai 5,ai 5,ai 0,ai 6],yI N1,yB ([AV.sl 1 (ax l),ai ↑k].length= [AV.sl 1 (ax l),ai ↑k1].length∧0< [AV.sl 1 (ax l),ai ↑k1].length) ⟨rfl,Nat.succ_pos _⟩,yR (AV.addr 3 0),yR (ai g.aC),yR (ai (g.aC+1)),yN (g.aC+1),yR (AV.addr 3 1),yR (aw g.head),yR (AV.sl 1 (ax [(1:Int),(1:Int),(1:Int),(2:Int),(3:Int),(4:Int),(4:Int),(5:Int),(5:Int),(0:Int),(6:Int)])),yR [ai 1,ai 1,ai 1,ai 2,ai 3,ai 4,ai 4,ai 5,ai 5,ai 0,ai 6],yR (↑x1:Int),yI b1,yI NZ,yL 17 17]<|ak<|a7.ow (bN.Mu 5 Vy bH)<|zP 1 [yH [(1,{av:=some (ai ↑x2),ln:=[(1000000000000,1000000000000)],ho:=[(1000000000000,Row.mk 1 false true [AV.sl 1 (ax l),ai ↑k2])]}),(2,yV (AV.agg (aP (dq x2))))]] [.aa [6,5,4,3,0,1] [6,1000000000000,5,4,3]] [yI N2,yB ([AV.sl 1 (ax l),ai ↑k1].length= [AV.sl 1 (ax l),ai ↑k2].length∧0< [AV.sl 1 (ax l),ai ↑k2].length) ⟨rfl,Nat.succ_pos _⟩,yI yj,yL 4 4] (a7.pE (fun (u:Unit)=>(⟨[(6,AV.addr 6 0),(5,AV.addr 5 0),(4,AV.addr 4 0),(3,AV.addr 3 0),(0,AV.addr 1000000000000 0),(1,AV.agg (bW g))],[(6,⟨1,false,true,(aP (dq x2))⟩),(4,⟨1,false,true,[ai 0,eh,ai 0,AV.val (Value.string (ByteArray.mk #[])),ai 0,eh,ai 0,eh,eh,AV.nil,AV.nil,AV.nil,ai 0,eh,eh,eh,AV.nil]⟩),(3,⟨1,false,true,List.map (aQ 6) (List.map (aQ 4) (List.map (aQ 3) (bW g)))⟩),(5,⟨1,false,true,bk S.1⟩),(1000000000000,⟨1,false,true,[.sl 1 (ax l),ai S.2]⟩)]⟩:AS)) (fun u=>(S.2≤l.length∧S.1.aC=g.aC+1)) bH ?_ ?_)
 ·by_cases c1:kd=1
  ·have hS:S=({pT g kd with name:=(dq x2).name,kh:=(dq x2).h,kr:=(dq x2).r},k2):=hP.trans (if_pos c1)
   clear hP;subst hS
   refine zq<|zB 0<|zP 1 [{}] [.aa [23,22,6,5,4,3,0,1] [6,1000000000000,5,4,3]] []<|dQ 23 (kd == (1:Int)) fX<|FM 6 [5] [] [yL 4 17,yR (AV.addr 6 1),yR (AV.agg [ai ((dq x2).h),aw ((dq x2).r)]),yL 6 17]<|aM<|ak (⟨(),⟨a2,rfl⟩,(zW [.aa [6,5,4,3,0,1] [6,4,3,5,1000000000000]])⟩)
  by_cases c2:kd=2
  ·have hS:S=({pT g kd with name:=(dq x2).name},k2):=by rw [hP];unfold xV;rw [if_neg c1,if_pos c2]
   clear hP;subst hS
   refine zq<|zB 0<|zP 1 [{}] [.aa [23,22,6,5,4,3,0,1] [6,1000000000000,5,4,3]] []<|bo 23 (kd == (1:Int)) bR<|zq<|dQ 31 (kd == (2:Int)) fX<|zX {} [yL 4 17]<|aM<|ak (⟨(),⟨a2,rfl⟩,(zW [.aa [6,5,4,3,0,1] [6,4,3,5,1000000000000]])⟩)
  by_cases c3:kd=3
  ·obtain ⟨x3,FQ⟩:∃x,x=gC l k2 10:=⟨_,rfl⟩
   obtain ⟨k3,BX⟩:∃x,x=dv l k2:=⟨_,rfl⟩
   have N3:=cY l k2 10 a2 hl (by decide) (by decide)
   have a3:=dj a2
   have hS:S=({pT g kd with bB:=gC l k2 10},dv l k2):=by rw [hP];unfold xV;rw [if_neg c1,if_neg c2,if_pos c3]
   rw [←FQ,←BX] at hS
   rw [←FQ,←BX] at N3
   rw [←BX] at a3
   clear hP FQ BX;subst hS
   refine zq<|zB 0<|zP 1 [{}] [.aa [23,22,6,5,4,3,0,1] [6,1000000000000,5,4,3]] []<|bo 23 (kd == (1:Int)) bR<|zq<|bo 31 (kd == (2:Int)) bR<|zq<|dQ 36 (kd == (3:Int)) fX<|zX (yH [(1,{av:=some (ai ↑x3),ln:=[(1000000000000,1000000000000)],ho:=[(1000000000000,Row.mk 1 false true [AV.sl 1 (ax l),ai ↑k3])]})]) [yI N3,yB ([AV.sl 1 (ax l),ai ↑k2].length= [AV.sl 1 (ax l),ai ↑k3].length∧0< [AV.sl 1 (ax l),ai ↑k3].length) ⟨rfl,Nat.succ_pos _⟩,yL 7 17]<|aM<|ak (⟨(),⟨a3,rfl⟩,(zW [.aa [6,5,4,3,0,1] [6,4,3,5,1000000000000]])⟩)
  by_cases c4:kd=4
  ·have N3:=xW l k2 g a2 hl g3
   unfold Ec at N3
   have a3:=II g a2
   have hS:S=({pT g kd with dep:=Nq l g k2},Ol l g k2):=by rw [hP];unfold xV;rw [if_neg c1,if_neg c2,if_neg c3,if_pos c4]
   obtain ⟨D,hD⟩:∃x,x=Nq l g k2:=⟨_,rfl⟩
   obtain ⟨k3,BX⟩:∃x,x=Ol l g k2:=⟨_,rfl⟩
   rw [←hD,←BX] at hS
   rw [←hD,←BX] at N3
   rw [←BX] at a3
   clear hP hD BX;subst hS
   refine zq<|zB 0<|zP 1 [{}] [.aa [23,22,6,5,4,3,0,1] [6,1000000000000,5,4,3]] []<|bo 23 (kd == (1:Int)) bR<|zq<|bo 31 (kd == (2:Int)) bR<|zq<|bo 36 (kd == (3:Int)) bR<|zP 1 [{}] [.aa [41,36,31,32,23,22,6,5,4,3,0,1] [6,1000000000000,5,4,3]] []<|dQ 41 (kd == (4:Int)) fX<|zX (yH [(2,{av:=some (AV.agg (bg D)),ln:=[(1000000000000,1000000000000)],ho:=[(1000000000000,Row.mk 1 false true [AV.sl 1 (ax l),ai ↑k3])]})]) [yI N3,yB ([AV.sl 1 (ax l),ai ↑k2].length= [AV.sl 1 (ax l),ai ↑k3].length∧0< [AV.sl 1 (ax l),ai ↑k3].length) ⟨rfl,Nat.succ_pos _⟩,yL 14 17]<|aM<|ak (⟨(),⟨a3,rfl⟩,(zW [.aa [6,5,4,3,0,1] [6,4,3,5,1000000000000]])⟩)
  by_cases c5:kd=5
  ·obtain ⟨x3,FQ⟩:∃x,x=gC l k2 5:=⟨_,rfl⟩
   obtain ⟨k3,BX⟩:∃x,x=dv l k2:=⟨_,rfl⟩
   have N3:=cY l k2 5 a2 hl (by decide) (by decide)
   have a3:=dj a2
   have hS:S=(if g.aF.length=0 then ({pT g kd with target:=u64 (gC l k2 5)},dv l k2) else ({pT g kd with target:=u64 (gC l k2 5),cm:=(g.aF.getD (gC l (dv l k2) g.aF.length) default).cm},dv l (dv l k2))):=by rw [hP];unfold xV;rw [if_neg c1,if_neg c2,if_neg c3,if_neg c4,if_pos c5]
   rw [←FQ,←BX] at hS
   rw [←FQ,←BX] at N3
   rw [←BX] at a3
   have sK:(af bg g.aF).length=g.aF.length*7:=aG (e:=7) (fun _=>rfl) ..
   by_cases c6:g.aF.length=0
   ·rw [if_pos c6] at hS
    clear hP FQ BX;subst hS
    refine zq<|zB 0<|zP 1 [{}] [.aa [23,22,6,5,4,3,0,1] [6,1000000000000,5,4,3]] []<|bo 23 (kd == (1:Int)) bR<|zq<|bo 31 (kd == (2:Int)) bR<|zq<|bo 36 (kd == (3:Int)) bR<|zP 1 [{}] [.aa [41,36,31,32,23,22,6,5,4,3,0,1] [6,1000000000000,5,4,3]] []<|bo 41 (kd == (4:Int)) bR<|zq<|dQ 47 (kd == (5:Int)) fX<|zP 2 [yH [(1,{av:=some (ai ↑x3),ln:=[(1000000000000,1000000000000)],ho:=[(1000000000000,Row.mk 1 false true [AV.sl 1 (ax l),ai ↑k3])]}),(2,yV (aw (u64 (↑x3:Int))))],yH [(2,{k:=g.aF.length})]] [.aa [56,47,41,36,31,32,23,22,6,5,4,3,0,1] [5,1000000000000,6,4,3]] [yI N3,yB ([AV.sl 1 (ax l),ai ↑k2].length= [AV.sl 1 (ax l),ai ↑k3].length∧0< [AV.sl 1 (ax l),ai ↑k3].length) ⟨rfl,Nat.succ_pos _⟩,yI (a6 ((↑x3:Int))),yL 16 17,yI sK]<|dK 56 ((↑g.aF.length:Int)>0)<|zK<|aM<|ak (⟨(),⟨a3,rfl⟩,(zW [.aa [6,5,4,3,0,1] [6,4,3,5,1000000000000]])⟩)
   ·rw [if_neg c6] at hS
    have N4:=cY l k3 g.aF.length a3 hl ah ah
    have a4:=dj a3
    have b4:=ll l k3 (n:=g.aF.length) ah
    obtain ⟨x4,xn⟩:∃x,x=gC l k3 g.aF.length:=⟨_,rfl⟩
    obtain ⟨k4,Ad⟩:∃x,x=dv l k3:=⟨_,rfl⟩
    rw [←xn,←Ad] at hS
    rw [←xn,←Ad] at N4
    rw [←Ad] at a4
    rw [←xn] at b4
    have ix:=Ed (l:=g.aF) (i:=x4) ah
    clear hP FQ BX xn Ad;subst hS
    refine zq<|zB 0<|zP 1 [{}] [.aa [23,22,6,5,4,3,0,1] [6,1000000000000,5,4,3]] []<|bo 23 (kd == (1:Int)) bR<|zq<|bo 31 (kd == (2:Int)) bR<|zq<|bo 36 (kd == (3:Int)) bR<|zP 1 [{}] [.aa [41,36,31,32,23,22,6,5,4,3,0,1] [6,1000000000000,5,4,3]] []<|bo 41 (kd == (4:Int)) bR<|zq<|dQ 47 (kd == (5:Int)) fX<|zP 2 [yH [(1,{av:=some (ai ↑x3),ln:=[(1000000000000,1000000000000)],ho:=[(1000000000000,Row.mk 1 false true [AV.sl 1 (ax l),ai ↑k3])]}),(2,yV (aw (u64 (↑x3:Int))))],yH [(2,{k:=g.aF.length})]] [.aa [56,47,41,36,31,32,23,22,6,5,4,3,0,1] [5,1000000000000,6,4,3]] [yI N3,yB ([AV.sl 1 (ax l),ai ↑k2].length= [AV.sl 1 (ax l),ai ↑k3].length∧0< [AV.sl 1 (ax l),ai ↑k3].length) ⟨rfl,Nat.succ_pos _⟩,yI (a6 ((↑x3:Int))),yL 16 17,yI sK]<|jO 56 ((↑g.aF.length:Int)>0)<|FM 7 [6] [(5,{k:=g.aF.length}),(6,{av:=some (ai ↑x4),ln:=[(1000000000000,1000000000000)],ho:=[(1000000000000,Row.mk 1 false true [AV.sl 1 (ax l),ai ↑k4])]}),(7,{k:=x4}),(9,yV (aw ((g.aF.getD x4 default).cm)))] [yI sK,yI N4,yB ([AV.sl 1 (ax l),ai ↑k3].length= [AV.sl 1 (ax l),ai ↑k4].length∧0< [AV.sl 1 (ax l),ai ↑k4].length) ⟨rfl,Nat.succ_pos _⟩,yR (AV.addr 3 4),yR (AV.sl 7 (af bg g.aF)),yR (↑x4:Int),yO (x4*7<(af bg g.aF).length),yA bg g.aF x4 0,yL 15 17]<|aM<|ak (⟨(),⟨a4,rfl⟩,(zW [.aa [6,5,4,3,0,1] [6,4,3,5,1000000000000]])⟩)
  ·have hS:S=(pT g kd,k2):=by rw [hP];unfold xV;rw [if_neg c1,if_neg c2,if_neg c3,if_neg c4,if_neg c5]
   clear hP;subst hS
   refine zq<|zB 0<|zP 1 [{}] [.aa [23,22,6,5,4,3,0,1] [6,1000000000000,5,4,3]] []<|bo 23 (kd == (1:Int)) bR<|zq<|bo 31 (kd == (2:Int)) bR<|zq<|bo 36 (kd == (3:Int)) bR<|zP 1 [{}] [.aa [41,36,31,32,23,22,6,5,4,3,0,1] [6,1000000000000,5,4,3]] []<|bo 41 (kd == (4:Int)) bR<|zq<|bo 47 (kd == (5:Int)) bR<|zK<|aM<|ak (⟨(),⟨a2,rfl⟩,(zW [.aa [6,5,4,3,0,1] [6,4,3,5,1000000000000]])⟩)
 intro u hu
 clear hP N1 N2 NZ yj
 obtain ⟨e1,k3⟩:=S
 obtain ⟨hu,RT⟩:=hu
 simp only at hu RT ⊢
 obtain ⟨x3,FQ⟩:∃x,x=gC l k3 24:=⟨_,rfl⟩
 obtain ⟨k4,Ad⟩:∃x,x=dv l k3:=⟨_,rfl⟩
 have N3:=cY l k3 24 hu hl (by decide) (by decide)
 have a4:=dj hu
 rw [←FQ,←Ad] at N3
 rw [←Ad] at a4
 have hE:AK l (e1,k3)=if x3=23 then ({e1 with aC:=e1.aC+((gC l k4 3:Int)-1)},dv l k4) else if x3=22 then ({e1 with prev:=e1.prev+1},k4) else if x3=21 then ({e1 with name:=qI.getD (gC l k4 3) []},dv l k4) else if x3=20 then ({e1 with target:=7},k4) else if x3=19 then ({e1 with dep:={e1.dep with need:=(gC l k4 12:Int)-1}},dv l k4) else (e1,k4):=by unfold AK;rw [FQ,Ad]
 clear FQ Ad
 generalize hT:AK l (e1,k3)=T at *
 obtain ⟨e2,k5⟩:=T
 simp only
 clear hT
 refine a7.pE (fun (u:Unit)=>(⟨[(6,AV.addr 6 0),(5,AV.addr 5 0),(4,AV.addr 4 0),(3,AV.addr 3 0),(0,AV.addr 1000000000000 0),(1,AV.agg (bW g))],[(6,⟨1,false,true,(aP (dq x2))⟩),(4,⟨1,false,true,[ai 0,eh,ai 0,AV.val (Value.string (ByteArray.mk #[])),ai 0,eh,ai 0,eh,eh,AV.nil,AV.nil,AV.nil,ai 0,eh,eh,eh,AV.nil]⟩),(3,⟨1,false,true,List.map (aQ 6) (List.map (aQ 4) (List.map (aQ 3) (bW g)))⟩),(5,⟨1,false,true,bk e2⟩),(1000000000000,⟨1,false,true,[.sl 1 (ax l),ai k5]⟩)]⟩:AS)) (fun u=>(True)) bH ?_ ?_
 ·by_cases d1:x3=23
  ·rw [if_pos d1] at hE
   obtain ⟨x4,xn⟩:∃x,x=gC l k4 3:=⟨_,rfl⟩
   obtain ⟨k6,E9⟩:∃x,x=dv l k4:=⟨_,rfl⟩
   have N4:=cY l k4 3 a4 hl (by decide) (by decide)
   have b4:=ll l k4 (n:=3) (by decide)
   rw [←xn,←E9] at hE
   rw [←xn,←E9] at N4
   rw [←xn] at b4
   clear xn E9
   injection hE with h1 h2
   subst h1 h2
   have TN:IntKind.i64.wrap ((x4:Int)-1)=(x4:Int)-1:=by rw [IntKind.wrap_i64];omega
   have VI:IntKind.i64.wrap (e1.aC+((x4:Int)-1))=e1.aC+((x4:Int)-1):=by rw [IntKind.wrap_i64];omega
   refine zQ 1 [yH [(1,{av:=some (ai ↑x3),ln:=[(1000000000000,1000000000000)],ho:=[(1000000000000,Row.mk 1 false true [AV.sl 1 (ax l),ai ↑k4])]})]] [yI N3,yB ([AV.sl 1 (ax l),ai ↑k3].length= [AV.sl 1 (ax l),ai ↑k4].length∧0< [AV.sl 1 (ax l),ai ↑k4].length) ⟨rfl,Nat.succ_pos _⟩]<|zB 1<|zP 1 [{}] [.aa [70,69,6,5,4,3,0,1] [1000000000000,6,4,3,5]] []<|dQ 70 ((↑x3:Int) == (23:Int)) fX<|FM 5 [3] [(3,{av:=some (ai ↑x4),ln:=[(1000000000000,1000000000000)],ho:=[(1000000000000,Row.mk 1 false true [AV.sl 1 (ax l),ai ↑k5])]}),(4,yV (ai ((↑x4:Int)-1))),(5,yV (ai (e1.aC+((↑x4:Int)-1))))] [yI N4,yB ([AV.sl 1 (ax l),ai ↑k4].length= [AV.sl 1 (ax l),ai ↑k5].length∧0< [AV.sl 1 (ax l),ai ↑k5].length) ⟨rfl,Nat.succ_pos _⟩,yR (AV.addr 5 0),yR (ai e1.aC),yN ((↑x4:Int)-1),yN (e1.aC+((↑x4:Int)-1)),yL 1 17]<|aM<|ak (⟨(),trivial,(zW [.aa [6,5,4,3,0,1] [6,4,3,5,1000000000000]])⟩)
  rw [if_neg d1] at hE
  by_cases d2:x3=22
  ·rw [if_pos d2] at hE
   injection hE with h1 h2
   subst h1 h2
   refine zQ 1 [yH [(1,{av:=some (ai ↑x3),ln:=[(1000000000000,1000000000000)],ho:=[(1000000000000,Row.mk 1 false true [AV.sl 1 (ax l),ai ↑k5])]})]] [yI N3,yB ([AV.sl 1 (ax l),ai ↑k3].length= [AV.sl 1 (ax l),ai ↑k5].length∧0< [AV.sl 1 (ax l),ai ↑k5].length) ⟨rfl,Nat.succ_pos _⟩]<|zB 1<|zP 1 [{}] [.aa [70,69,6,5,4,3,0,1] [1000000000000,6,4,3,5]] []<|bo 70 ((↑x3:Int) == (23:Int)) bR<|zq<|dQ 79 ((↑x3:Int) == (22:Int)) fX<|zX (yH [(2,yV (aw (e1.prev+1)))]) [yR (aw (e1.prev+1)),yL 2 17]<|aM<|ak (⟨(),trivial,(zW [.aa [6,5,4,3,0,1] [6,4,3,5,1000000000000]])⟩)
  rw [if_neg d2] at hE
  by_cases d3:x3=21
  ·rw [if_pos d3] at hE
   obtain ⟨x4,xn⟩:∃x,x=gC l k4 3:=⟨_,rfl⟩
   obtain ⟨k6,E9⟩:∃x,x=dv l k4:=⟨_,rfl⟩
   have N4:=cY l k4 3 a4 hl (by decide) (by decide)
   have b4:=ll l k4 (n:=3) (by decide)
   rw [←xn,←E9] at hE
   rw [←xn,←E9] at N4
   rw [←xn] at b4
   have Ku:=G9 (n:=x4) ah
   generalize qI.getD x4 []=T0 at *
   clear xn E9
   injection hE with h1 h2
   subst h1 h2
   refine zQ 1 [yH [(1,{av:=some (ai ↑x3),ln:=[(1000000000000,1000000000000)],ho:=[(1000000000000,Row.mk 1 false true [AV.sl 1 (ax l),ai ↑k4])]})]] [yI N3,yB ([AV.sl 1 (ax l),ai ↑k3].length= [AV.sl 1 (ax l),ai ↑k4].length∧0< [AV.sl 1 (ax l),ai ↑k4].length) ⟨rfl,Nat.succ_pos _⟩]<|zB 1<|zP 1 [{}] [.aa [70,69,6,5,4,3,0,1] [1000000000000,6,4,3,5]] []<|bo 70 ((↑x3:Int) == (23:Int)) bR<|zq<|bo 79 ((↑x3:Int) == (22:Int)) bR<|zP 1 [{}] [.aa [85,79,70,69,6,5,4,3,0,1] [1000000000000,6,4,3,5]] []<|dQ 85 ((↑x3:Int) == (21:Int)) fX<|zX (yH [(2,{av:=some (ai ↑x4),ln:=[(1000000000000,1000000000000)],ho:=[(1000000000000,Row.mk 1 false true [AV.sl 1 (ax l),ai ↑k5])]}),(3,{k:=x4}),(4,yV (dw T0))]) [yI N4,yB ([AV.sl 1 (ax l),ai ↑k4].length= [AV.sl 1 (ax l),ai ↑k5].length∧0< [AV.sl 1 (ax l),ai ↑k5].length) ⟨rfl,Nat.succ_pos _⟩,yR (↑x4:Int),yO (x4<3),yI Ku,yL 4 17]<|aM<|ak (⟨(),trivial,(zW [.aa [6,5,4,3,0,1] [6,4,3,5,1000000000000]])⟩)
  rw [if_neg d3] at hE
  by_cases d4:x3=20
  ·rw [if_pos d4] at hE
   injection hE with h1 h2
   subst h1 h2
   refine zQ 1 [yH [(1,{av:=some (ai ↑x3),ln:=[(1000000000000,1000000000000)],ho:=[(1000000000000,Row.mk 1 false true [AV.sl 1 (ax l),ai ↑k5])]})]] [yI N3,yB ([AV.sl 1 (ax l),ai ↑k3].length= [AV.sl 1 (ax l),ai ↑k5].length∧0< [AV.sl 1 (ax l),ai ↑k5].length) ⟨rfl,Nat.succ_pos _⟩]<|zB 1<|zP 1 [{}] [.aa [70,69,6,5,4,3,0,1] [1000000000000,6,4,3,5]] []<|bo 70 ((↑x3:Int) == (23:Int)) bR<|zq<|bo 79 ((↑x3:Int) == (22:Int)) bR<|zP 1 [{}] [.aa [85,79,70,69,6,5,4,3,0,1] [1000000000000,6,4,3,5]] []<|bo 85 ((↑x3:Int) == (21:Int)) bR<|zq<|dQ 93 ((↑x3:Int) == (20:Int)) fX<|zX {} [yL 16 17]<|aM<|ak (⟨(),trivial,(zW [.aa [6,5,4,3,0,1] [6,4,3,5,1000000000000]])⟩)
  rw [if_neg d4] at hE
  by_cases d5:x3=19
  ·rw [if_pos d5] at hE
   obtain ⟨x4,xn⟩:∃x,x=gC l k4 12:=⟨_,rfl⟩
   obtain ⟨k6,E9⟩:∃x,x=dv l k4:=⟨_,rfl⟩
   have N4:=cY l k4 12 a4 hl (by decide) (by decide)
   have b4:=ll l k4 (n:=12) (by decide)
   rw [←xn,←E9] at hE
   rw [←xn,←E9] at N4
   rw [←xn] at b4
   clear xn E9
   injection hE with h1 h2
   subst h1 h2
   have TN:IntKind.i64.wrap ((x4:Int)-1)=(x4:Int)-1:=by rw [IntKind.wrap_i64];omega
   refine zQ 1 [yH [(1,{av:=some (ai ↑x3),ln:=[(1000000000000,1000000000000)],ho:=[(1000000000000,Row.mk 1 false true [AV.sl 1 (ax l),ai ↑k4])]})]] [yI N3,yB ([AV.sl 1 (ax l),ai ↑k3].length= [AV.sl 1 (ax l),ai ↑k4].length∧0< [AV.sl 1 (ax l),ai ↑k4].length) ⟨rfl,Nat.succ_pos _⟩]<|zB 1<|zP 1 [{}] [.aa [70,69,6,5,4,3,0,1] [1000000000000,6,4,3,5]] []<|bo 70 ((↑x3:Int) == (23:Int)) bR<|zq<|bo 79 ((↑x3:Int) == (22:Int)) bR<|zP 1 [{}] [.aa [85,79,70,69,6,5,4,3,0,1] [1000000000000,6,4,3,5]] []<|bo 85 ((↑x3:Int) == (21:Int)) bR<|zq<|bo 93 ((↑x3:Int) == (20:Int)) bR<|zP 1 [{}] [.aa [96,93,85,79,70,69,6,5,4,3,0,1] [1000000000000,6,4,3,5]] []<|dQ 96 ((↑x3:Int) == (19:Int)) fX<|zX (yH [(1,{av:=some (ai ↑x4),ln:=[(1000000000000,1000000000000)],ho:=[(1000000000000,Row.mk 1 false true [AV.sl 1 (ax l),ai ↑k5])]}),(2,yV (ai ((↑x4:Int)-1)))]) [yI N4,yB ([AV.sl 1 (ax l),ai ↑k4].length= [AV.sl 1 (ax l),ai ↑k5].length∧0< [AV.sl 1 (ax l),ai ↑k5].length) ⟨rfl,Nat.succ_pos _⟩,yN ((↑x4:Int)-1),yL 13 17]<|aM<|ak (⟨(),trivial,(zW [.aa [6,5,4,3,0,1] [6,4,3,5,1000000000000]])⟩)
  ·rw [if_neg d5] at hE
   injection hE with h1 h2
   subst h1 h2
   refine zQ 1 [yH [(1,{av:=some (ai ↑x3),ln:=[(1000000000000,1000000000000)],ho:=[(1000000000000,Row.mk 1 false true [AV.sl 1 (ax l),ai ↑k5])]})]] [yI N3,yB ([AV.sl 1 (ax l),ai ↑k3].length= [AV.sl 1 (ax l),ai ↑k5].length∧0< [AV.sl 1 (ax l),ai ↑k5].length) ⟨rfl,Nat.succ_pos _⟩]<|zB 1<|zP 1 [{}] [.aa [70,69,6,5,4,3,0,1] [1000000000000,6,4,3,5]] []<|bo 70 ((↑x3:Int) == (23:Int)) bR<|zq<|bo 79 ((↑x3:Int) == (22:Int)) bR<|zP 1 [{}] [.aa [85,79,70,69,6,5,4,3,0,1] [1000000000000,6,4,3,5]] []<|bo 85 ((↑x3:Int) == (21:Int)) bR<|zq<|bo 93 ((↑x3:Int) == (20:Int)) bR<|zP 1 [{}] [.aa [96,93,85,79,70,69,6,5,4,3,0,1] [1000000000000,6,4,3,5]] []<|bo 96 ((↑x3:Int) == (19:Int)) bR<|zK<|aM<|ak (⟨(),trivial,(zW [.aa [6,5,4,3,0,1] [6,4,3,5,1000000000000]])⟩)
 intro u hu
 refine zP 1 [{}] [.aa [6,5,4,3,0,1] [4,6,3,5,1000000000000]] [yL 17 17]<|zR (zG [] [yR (Value.int .i64 e2.aC),yR (Value.int .u64 (wv e2.prev)),yR (Value.int .i64 e2.kind),yR (Value.string (ByteArray.mk e2.name.toArray)),yR (Value.int .i64 e2.kh),yR (Value.int .u64 (wv e2.kr)),yR (Value.int .i64 e2.bB),yR (Value.int .u64 (wv e2.dep.cm)),yR (Value.int .u64 (wv e2.dep.peer)),yR (ag e2.dep.box),yR (af ay e2.dep.ae),yR (aj e2.dep.au),yR (Value.int .i64 e2.dep.need),yR (Value.int .u64 (wv e2.dep.target)),yR (Value.int .u64 (wv e2.cm)),yR (Value.int .u64 (wv e2.target)),yR (af bp e2.ar),yR [AV.sl 1 (ax l),ai ↑k5]])
end Go.Proofs.YtjgbhhnghedgdaaGreatDoor
