import Derived.Test.YtjgbhhnghedgdaaGreatDoorZvGrE3
set_option linter.all false
namespace Go.Proofs.YtjgbhhnghedgdaaGreatDoor
open Go.RowKit
set_option maxRecDepth 100000
set_option maxHeartbeats 4000000
def E0:List Int:=[1,1,1,2,3,4,4,5,5,0,6]
def rU:List (List UInt8):=[[],[255],[109,49]]
def Rb:nH:=⟨0,0,[],[],[],0,0⟩
def qV (g:ig) (kd:Int):fC:=⟨g.aC+1,g.head,kd,[],0,0,0,Rb,0,0,[]⟩
def Ac (l:List Int) (g:ig) (kd:Int) (n k:Nat):fC×Nat :=
 if kd=1 then ({qV g kd with name:=(eK n).name,kh:=(eK n).h,kr:=(eK n).r},k)
 else if kd=2 then ({qV g kd with name:=(eK n).name},k)
 else if kd=3 then ({qV g kd with bA:=ia l k 10},eg l k)
 else if kd=4 then ({qV g kd with dep:=OB l g k},Pt l g k)
 else if kd=5 then (if g.aU.length=0 then ({qV g kd with target:=u64 (ia l k 5)},eg l k) else ({qV g kd with target:=u64 (ia l k 5),bV:=(g.aU.getD (ia l (eg l k) g.aU.length) default).bV},eg l (eg l k)))
 else (qV g kd,k)
def Ca (l:List Int) (s:fC×Nat):fC×Nat :=
 if ia l s.2 24=23 then ({s.1 with aC:=s.1.aC+((ia l (eg l s.2) 3:Int)-1)},eg l (eg l s.2))
 else if ia l s.2 24=22 then ({s.1 with prev:=s.1.prev+1},eg l s.2)
 else if ia l s.2 24=21 then ({s.1 with name:=rU.getD (ia l (eg l s.2) 3) []},eg l (eg l s.2))
 else if ia l s.2 24=20 then ({s.1 with target:=7},eg l s.2)
 else if ia l s.2 24=19 then ({s.1 with dep:={s.1.dep with need:=(ia l (eg l s.2) 12:Int)-1}},eg l (eg l s.2))
 else (s.1,eg l s.2)
def T_ (l:List Int) (g:ig) (k:Nat):fC×Nat:=Ac l g (E0.getD (ia l k 11) 0) (ia l (eg l k) 10) (eg l (eg l k))
def tO (l:List Int) (g:ig) (k:Nat):fC×Nat:=Ca l (T_ l g k)
def W1:List (Nat×Nat):=[(9,1),(10,1),(11,1),(16,4)]
theorem IH {n:Nat} (h:n<11):(au [1,1,1,2,3,4,4,5,5,0,6])[n]?=some (ai (E0.getD n 0)):=by
 rcases n with _|_|_|_|_|_|_|_|_|_|_|n<;>first|rfl|omega
theorem Ir {n:Nat} (h:n<3):(rU.map cV)[n]?=some (cV (rU.getD n [])):=by
 rw [List.getElem?_map,List.getD_eq_getElem?_getD,List.getElem?_eq_getElem (by exact h)];rfl
theorem J1 {l:List Int} (g:ig) {k:Nat} (h:k≤l.length):Pt l g k≤l.length:=dS (dS (dS (dS (dS (q9 g h 10).at_))))
theorem GR (l:List Int) (k k1 k2 x1 x2:Nat) (kd:Int) (S:fC×Nat) (g:ig) (hl:l.length≤9223372036854775807) (hG:ry g) (hP:S=Ac l g kd x2 k2) (b1:x1<11) (b2:x2<10) (a2:k2≤l.length)
  (N1:gn Tryz.prog 24 [.addr 1000000000000 0,ai 11] (Aw l k) (ai x1) (Aw l k1)) (N2:gn Tryz.prog 24 [.addr 1000000000000 0,ai 10] (Aw l k1) (ai x2) (Aw l k2))
  (Pc:(au [1,1,1,2,3,4,4,5,5,0,6])[x1]?=some (ai kd)):gn Tryz.prog 16 [.addr 1000000000000 0,.agg (dA g)] (Aw l k) (.agg (bf (Ca l S).1)) (Aw l (Ca l S).2):=by
 obtain ⟨g1,g2,g3,g4,g5,g6⟩:=hG
 have oT:=f_ x2 ag
 have hw:IntKind.i64.wrap (g.aC+1)=g.aC+1:=by rw [IntKind.wrap_i64];omega
 unfold Aw at *
 refine nC Tryz.func16 104<|zq<|zS<|zA 12 [7] [11] [(2,yV (ai (g.aC+1))),(5,yV (AV.arr (au [(1:Int),(1:Int),(1:Int),(2:Int),(3:Int),(4:Int),(4:Int),(5:Int),(5:Int),(0:Int),(6:Int)]))),(7,yE [(1000000000000,1000000000000)] N1),(8,{k:=x1}),(9,yV (ai kd))] [yN (g.aC+1),yR [ai 1,ai 1,ai 1,ai 2,ai 3,ai 4,ai 4,ai 5,ai 5,ai 0,ai 6],yI N1,yB ([AV.sl 1 (au l),ai ↑k].length= [AV.sl 1 (au l),ai ↑k1].length∧0< [AV.sl 1 (au l),ai ↑k1].length) ⟨rfl,Nat.succ_pos _⟩,yR (AV.addr 3 0),yR (ai g.aC),yR (ai (g.aC+1)),yN (g.aC+1),yR (AV.addr 3 1),yR (aw g.head),yR (AV.sl 1 (au [(1:Int),(1:Int),(1:Int),(2:Int),(3:Int),(4:Int),(4:Int),(5:Int),(5:Int),(0:Int),(6:Int)])),yR [ai 1,ai 1,ai 1,ai 2,ai 3,ai 4,ai 4,ai 5,ai 5,ai 0,ai 6],yR (↑x1:Int),yI b1,yI Pc,yL 17 17]<|al<|bg.nL (bQ.Nx 5 W1 bu)<|zP 1 [yH [(1,yE [(1000000000000,1000000000000)] N2),(2,yC oT)]] [.aa [6,5,4,3,0,1] [6,1000000000000,5,4,3]] [yI N2,yB ([AV.sl 1 (au l),ai ↑k1].length= [AV.sl 1 (au l),ai ↑k2].length∧0< [AV.sl 1 (au l),ai ↑k2].length) ⟨rfl,Nat.succ_pos _⟩,yI oT,yL 4 4] (bg.ob (fun (u:Unit)=>(⟨[(6,AV.addr 6 0),(5,AV.addr 5 0),(4,AV.addr 4 0),(3,AV.addr 3 0),(0,AV.addr 1000000000000 0),(1,AV.agg (dA g))],[(6,⟨1,false,true,(aT (eK x2))⟩),(4,⟨1,false,true,[ai 0,ez,ai 0,AV.val (Value.string (ByteArray.mk #[])),ai 0,ez,ai 0,ez,ez,AV.nil,AV.nil,AV.nil,ai 0,ez,ez,ez,AV.nil]⟩),(3,⟨1,false,true,List.map (aF 6) (List.map (aF 4) (List.map (aF 3) (dA g)))⟩),(5,⟨1,false,true,bf S.1⟩),(1000000000000,⟨1,false,true,[.sl 1 (au l),ai S.2]⟩)]⟩:AS)) (fun u=>(S.2≤l.length∧S.1.aC=g.aC+1)) bu ?_ ?_)
 ·by_cases c1:kd=1
  ·have hS:S=({qV g kd with name:=(eK x2).name,kh:=(eK x2).h,kr:=(eK x2).r},k2):=hP.trans (if_pos c1)
   clear hP;subst hS
   refine zq<|zB 0<|zP 1 [{}] [.aa [23,22,6,5,4,3,0,1] [6,1000000000000,5,4,3]] []<|dB 23 (kd == (1:Int)) eJ<|Ax 6 [5] [] [yL 4 17,yR (AV.addr 6 1),yR (AV.agg [ai ((eK x2).h),aw ((eK x2).r)]),yL 6 17]<|aJ<|al (⟨(),⟨a2,rfl⟩,(zW [.aa [6,5,4,3,0,1] [6,4,3,5,1000000000000]])⟩)
  by_cases c2:kd=2
  ·have hS:S=({qV g kd with name:=(eK x2).name},k2):=by rw [hP];unfold Ac;rw [if_neg c1,if_pos c2]
   clear hP;subst hS
   refine zq<|zB 0<|zP 1 [{}] [.aa [23,22,6,5,4,3,0,1] [6,1000000000000,5,4,3]] []<|bk 23 (kd == (1:Int)) bD<|zq<|dB 31 (kd == (2:Int)) eJ<|zX {} [yL 4 17]<|aJ<|al (⟨(),⟨a2,rfl⟩,(zW [.aa [6,5,4,3,0,1] [6,4,3,5,1000000000000]])⟩)
  by_cases c3:kd=3
  ·obtain ⟨x3,Hg⟩:∃x,x=ia l k2 10:=⟨_,rfl⟩
   obtain ⟨k3,Dl⟩:∃x,x=eg l k2:=⟨_,rfl⟩
   have N3:=dt l k2 10 a2 hl (by decide) (by decide)
   have a3:=dS a2
   have hS:S=({qV g kd with bA:=ia l k2 10},eg l k2):=by rw [hP];unfold Ac;rw [if_neg c1,if_neg c2,if_pos c3]
   rw [←Hg,←Dl] at hS
   rw [←Hg,←Dl] at N3
   rw [←Dl] at a3
   clear hP Hg Dl;subst hS
   refine zq<|zB 0<|zP 1 [{}] [.aa [23,22,6,5,4,3,0,1] [6,1000000000000,5,4,3]] []<|bk 23 (kd == (1:Int)) bD<|zq<|bk 31 (kd == (2:Int)) bD<|zq<|dB 36 (kd == (3:Int)) eJ<|zX (yH [(1,yE [(1000000000000,1000000000000)] N3)]) [yI N3,yB ([AV.sl 1 (au l),ai ↑k2].length= [AV.sl 1 (au l),ai ↑k3].length∧0< [AV.sl 1 (au l),ai ↑k3].length) ⟨rfl,Nat.succ_pos _⟩,yL 7 17]<|aJ<|al (⟨(),⟨a3,rfl⟩,(zW [.aa [6,5,4,3,0,1] [6,4,3,5,1000000000000]])⟩)
  by_cases c4:kd=4
  ·have N3:=Ae l k2 g a2 hl g3
   unfold Aw at N3
   have a3:=J1 g a2
   have hS:S=({qV g kd with dep:=OB l g k2},Pt l g k2):=by rw [hP];unfold Ac;rw [if_neg c1,if_neg c2,if_neg c3,if_pos c4]
   obtain ⟨D,hD⟩:∃x,x=OB l g k2:=⟨_,rfl⟩
   obtain ⟨k3,Dl⟩:∃x,x=Pt l g k2:=⟨_,rfl⟩
   rw [←hD,←Dl] at hS
   rw [←hD,←Dl] at N3
   rw [←Dl] at a3
   clear hP hD Dl;subst hS
   refine zq<|zB 0<|zP 1 [{}] [.aa [23,22,6,5,4,3,0,1] [6,1000000000000,5,4,3]] []<|bk 23 (kd == (1:Int)) bD<|zq<|bk 31 (kd == (2:Int)) bD<|zq<|bk 36 (kd == (3:Int)) bD<|zP 1 [{}] [.aa [41,36,31,32,23,22,6,5,4,3,0,1] [6,1000000000000,5,4,3]] []<|dB 41 (kd == (4:Int)) eJ<|zX (yH [(2,yE [(1000000000000,1000000000000)] N3)]) [yI N3,yB ([AV.sl 1 (au l),ai ↑k2].length= [AV.sl 1 (au l),ai ↑k3].length∧0< [AV.sl 1 (au l),ai ↑k3].length) ⟨rfl,Nat.succ_pos _⟩,yL 14 17]<|aJ<|al (⟨(),⟨a3,rfl⟩,(zW [.aa [6,5,4,3,0,1] [6,4,3,5,1000000000000]])⟩)
  by_cases c5:kd=5
  ·obtain ⟨x3,Hg⟩:∃x,x=ia l k2 5:=⟨_,rfl⟩
   obtain ⟨k3,Dl⟩:∃x,x=eg l k2:=⟨_,rfl⟩
   have N3:=dt l k2 5 a2 hl (by decide) (by decide)
   have a3:=dS a2
   have hS:S=(if g.aU.length=0 then ({qV g kd with target:=u64 (ia l k2 5)},eg l k2) else ({qV g kd with target:=u64 (ia l k2 5),bV:=(g.aU.getD (ia l (eg l k2) g.aU.length) default).bV},eg l (eg l k2))):=by rw [hP];unfold Ac;rw [if_neg c1,if_neg c2,if_neg c3,if_neg c4,if_pos c5]
   rw [←Hg,←Dl] at hS
   rw [←Hg,←Dl] at N3
   rw [←Dl] at a3
   have ue:(af bj g.aU).length=g.aU.length*7:=aE (e:=7) (fun _=>rfl) ..
   by_cases c6:g.aU.length=0
   ·rw [if_pos c6] at hS
    clear hP Hg Dl;subst hS
    refine zq<|zB 0<|zP 1 [{}] [.aa [23,22,6,5,4,3,0,1] [6,1000000000000,5,4,3]] []<|bk 23 (kd == (1:Int)) bD<|zq<|bk 31 (kd == (2:Int)) bD<|zq<|bk 36 (kd == (3:Int)) bD<|zP 1 [{}] [.aa [41,36,31,32,23,22,6,5,4,3,0,1] [6,1000000000000,5,4,3]] []<|bk 41 (kd == (4:Int)) bD<|zq<|dB 47 (kd == (5:Int)) eJ<|zP 2 [yH [(1,yE [(1000000000000,1000000000000)] N3),(2,yV (aw (u64 (↑x3:Int))))],yH [(2,{k:=g.aU.length})]] [.aa [56,47,41,36,31,32,23,22,6,5,4,3,0,1] [5,1000000000000,6,4,3]] [yI N3,yB ([AV.sl 1 (au l),ai ↑k2].length= [AV.sl 1 (au l),ai ↑k3].length∧0< [AV.sl 1 (au l),ai ↑k3].length) ⟨rfl,Nat.succ_pos _⟩,yI (a7 ((↑x3:Int))),yL 16 17,yI ue]<|dF 56 ((↑g.aU.length:Int)>0)<|zK<|aJ<|al (⟨(),⟨a3,rfl⟩,(zW [.aa [6,5,4,3,0,1] [6,4,3,5,1000000000000]])⟩)
   ·rw [if_neg c6] at hS
    have N4:=dt l k3 g.aU.length a3 hl ag ag
    have a4:=dS a3
    have b4:=lp l k3 (n:=g.aU.length) ag
    obtain ⟨x4,zj⟩:∃x,x=ia l k3 g.aU.length:=⟨_,rfl⟩
    obtain ⟨k4,BI⟩:∃x,x=eg l k3:=⟨_,rfl⟩
    rw [←zj,←BI] at hS
    rw [←zj,←BI] at N4
    rw [←BI] at a4
    rw [←zj] at b4
    have gM:=Ad (l:=g.aU) (i:=x4) ag
    clear hP Hg Dl zj BI;subst hS
    refine zq<|zB 0<|zP 1 [{}] [.aa [23,22,6,5,4,3,0,1] [6,1000000000000,5,4,3]] []<|bk 23 (kd == (1:Int)) bD<|zq<|bk 31 (kd == (2:Int)) bD<|zq<|bk 36 (kd == (3:Int)) bD<|zP 1 [{}] [.aa [41,36,31,32,23,22,6,5,4,3,0,1] [6,1000000000000,5,4,3]] []<|bk 41 (kd == (4:Int)) bD<|zq<|dB 47 (kd == (5:Int)) eJ<|zP 2 [yH [(1,yE [(1000000000000,1000000000000)] N3),(2,yV (aw (u64 (↑x3:Int))))],yH [(2,{k:=g.aU.length})]] [.aa [56,47,41,36,31,32,23,22,6,5,4,3,0,1] [5,1000000000000,6,4,3]] [yI N3,yB ([AV.sl 1 (au l),ai ↑k2].length= [AV.sl 1 (au l),ai ↑k3].length∧0< [AV.sl 1 (au l),ai ↑k3].length) ⟨rfl,Nat.succ_pos _⟩,yI (a7 ((↑x3:Int))),yL 16 17,yI ue]<|iw 56 ((↑g.aU.length:Int)>0)<|Ax 7 [6] [(5,{k:=g.aU.length}),(6,yE [(1000000000000,1000000000000)] N4),(7,{k:=x4}),(9,yV (aw ((g.aU.getD x4 default).bV)))] [yI ue,yI N4,yB ([AV.sl 1 (au l),ai ↑k3].length= [AV.sl 1 (au l),ai ↑k4].length∧0< [AV.sl 1 (au l),ai ↑k4].length) ⟨rfl,Nat.succ_pos _⟩,yR (AV.addr 3 4),yR (AV.sl 7 (af bj g.aU)),yR (↑x4:Int),yO (x4*7<(af bj g.aU).length),yA bj g.aU x4 0,yL 15 17]<|aJ<|al (⟨(),⟨a4,rfl⟩,(zW [.aa [6,5,4,3,0,1] [6,4,3,5,1000000000000]])⟩)
  ·have hS:S=(qV g kd,k2):=by rw [hP];unfold Ac;rw [if_neg c1,if_neg c2,if_neg c3,if_neg c4,if_neg c5]
   clear hP;subst hS
   refine zq<|zB 0<|zP 1 [{}] [.aa [23,22,6,5,4,3,0,1] [6,1000000000000,5,4,3]] []<|bk 23 (kd == (1:Int)) bD<|zq<|bk 31 (kd == (2:Int)) bD<|zq<|bk 36 (kd == (3:Int)) bD<|zP 1 [{}] [.aa [41,36,31,32,23,22,6,5,4,3,0,1] [6,1000000000000,5,4,3]] []<|bk 41 (kd == (4:Int)) bD<|zq<|bk 47 (kd == (5:Int)) bD<|zK<|aJ<|al (⟨(),⟨a2,rfl⟩,(zW [.aa [6,5,4,3,0,1] [6,4,3,5,1000000000000]])⟩)
 intro u hu
 clear hP N1 N2 Pc oT
 obtain ⟨e1,k3⟩:=S
 obtain ⟨hu,Wi⟩:=hu
 simp only at hu Wi ⊢
 obtain ⟨x3,Hg⟩:∃x,x=ia l k3 24:=⟨_,rfl⟩
 obtain ⟨k4,BI⟩:∃x,x=eg l k3:=⟨_,rfl⟩
 have N3:=dt l k3 24 hu hl (by decide) (by decide)
 have a4:=dS hu
 rw [←Hg,←BI] at N3
 rw [←BI] at a4
 have hE:Ca l (e1,k3)=if x3=23 then ({e1 with aC:=e1.aC+((ia l k4 3:Int)-1)},eg l k4) else if x3=22 then ({e1 with prev:=e1.prev+1},k4) else if x3=21 then ({e1 with name:=rU.getD (ia l k4 3) []},eg l k4) else if x3=20 then ({e1 with target:=7},k4) else if x3=19 then ({e1 with dep:={e1.dep with need:=(ia l k4 12:Int)-1}},eg l k4) else (e1,k4):=by unfold Ca;rw [Hg,BI]
 clear Hg BI
 generalize hT:Ca l (e1,k3)=T at *
 obtain ⟨e2,k5⟩:=T
 simp only
 clear hT
 refine bg.ob (fun (u:Unit)=>(⟨[(6,AV.addr 6 0),(5,AV.addr 5 0),(4,AV.addr 4 0),(3,AV.addr 3 0),(0,AV.addr 1000000000000 0),(1,AV.agg (dA g))],[(6,⟨1,false,true,(aT (eK x2))⟩),(4,⟨1,false,true,[ai 0,ez,ai 0,AV.val (Value.string (ByteArray.mk #[])),ai 0,ez,ai 0,ez,ez,AV.nil,AV.nil,AV.nil,ai 0,ez,ez,ez,AV.nil]⟩),(3,⟨1,false,true,List.map (aF 6) (List.map (aF 4) (List.map (aF 3) (dA g)))⟩),(5,⟨1,false,true,bf e2⟩),(1000000000000,⟨1,false,true,[.sl 1 (au l),ai k5]⟩)]⟩:AS)) (fun u=>(True)) bu ?_ ?_
 ·by_cases d1:x3=23
  ·rw [if_pos d1] at hE
   obtain ⟨x4,zj⟩:∃x,x=ia l k4 3:=⟨_,rfl⟩
   obtain ⟨k6,Fg⟩:∃x,x=eg l k4:=⟨_,rfl⟩
   have N4:=dt l k4 3 a4 hl (by decide) (by decide)
   have b4:=lp l k4 (n:=3) (by decide)
   rw [←zj,←Fg] at hE
   rw [←zj,←Fg] at N4
   rw [←zj] at b4
   clear zj Fg
   injection hE with h1 h2
   subst h1 h2
   have Vj:IntKind.i64.wrap ((x4:Int)-1)=(x4:Int)-1:=by rw [IntKind.wrap_i64];omega
   have Xg:IntKind.i64.wrap (e1.aC+((x4:Int)-1))=e1.aC+((x4:Int)-1):=by rw [IntKind.wrap_i64];omega
   refine zQ 1 [yH [(1,yE [(1000000000000,1000000000000)] N3)]] [yI N3,yB ([AV.sl 1 (au l),ai ↑k3].length= [AV.sl 1 (au l),ai ↑k4].length∧0< [AV.sl 1 (au l),ai ↑k4].length) ⟨rfl,Nat.succ_pos _⟩]<|zB 1<|zP 1 [{}] [.aa [70,69,6,5,4,3,0,1] [1000000000000,6,4,3,5]] []<|dB 70 ((↑x3:Int) == (23:Int)) eJ<|Ax 5 [3] [(3,yE [(1000000000000,1000000000000)] N4),(4,yV (ai ((↑x4:Int)-1))),(5,yV (ai (e1.aC+((↑x4:Int)-1))))] [yI N4,yB ([AV.sl 1 (au l),ai ↑k4].length= [AV.sl 1 (au l),ai ↑k5].length∧0< [AV.sl 1 (au l),ai ↑k5].length) ⟨rfl,Nat.succ_pos _⟩,yR (AV.addr 5 0),yR (ai e1.aC),yN ((↑x4:Int)-1),yN (e1.aC+((↑x4:Int)-1)),yL 1 17]<|aJ<|al (⟨(),trivial,(zW [.aa [6,5,4,3,0,1] [6,4,3,5,1000000000000]])⟩)
  rw [if_neg d1] at hE
  by_cases d2:x3=22
  ·rw [if_pos d2] at hE
   injection hE with h1 h2
   subst h1 h2
   refine zQ 1 [yH [(1,yE [(1000000000000,1000000000000)] N3)]] [yI N3,yB ([AV.sl 1 (au l),ai ↑k3].length= [AV.sl 1 (au l),ai ↑k5].length∧0< [AV.sl 1 (au l),ai ↑k5].length) ⟨rfl,Nat.succ_pos _⟩]<|zB 1<|zP 1 [{}] [.aa [70,69,6,5,4,3,0,1] [1000000000000,6,4,3,5]] []<|bk 70 ((↑x3:Int) == (23:Int)) bD<|zq<|dB 79 ((↑x3:Int) == (22:Int)) eJ<|zX (yH [(2,yV (aw (e1.prev+1)))]) [yR (aw (e1.prev+1)),yL 2 17]<|aJ<|al (⟨(),trivial,(zW [.aa [6,5,4,3,0,1] [6,4,3,5,1000000000000]])⟩)
  rw [if_neg d2] at hE
  by_cases d3:x3=21
  ·rw [if_pos d3] at hE
   obtain ⟨x4,zj⟩:∃x,x=ia l k4 3:=⟨_,rfl⟩
   obtain ⟨k6,Fg⟩:∃x,x=eg l k4:=⟨_,rfl⟩
   have N4:=dt l k4 3 a4 hl (by decide) (by decide)
   have b4:=lp l k4 (n:=3) (by decide)
   rw [←zj,←Fg] at hE
   rw [←zj,←Fg] at N4
   rw [←zj] at b4
   have Lv:=Ir (n:=x4) ag
   generalize rU.getD x4 []=Vv at *
   clear zj Fg
   injection hE with h1 h2
   subst h1 h2
   refine zQ 1 [yH [(1,yE [(1000000000000,1000000000000)] N3)]] [yI N3,yB ([AV.sl 1 (au l),ai ↑k3].length= [AV.sl 1 (au l),ai ↑k4].length∧0< [AV.sl 1 (au l),ai ↑k4].length) ⟨rfl,Nat.succ_pos _⟩]<|zB 1<|zP 1 [{}] [.aa [70,69,6,5,4,3,0,1] [1000000000000,6,4,3,5]] []<|bk 70 ((↑x3:Int) == (23:Int)) bD<|zq<|bk 79 ((↑x3:Int) == (22:Int)) bD<|zP 1 [{}] [.aa [85,79,70,69,6,5,4,3,0,1] [1000000000000,6,4,3,5]] []<|dB 85 ((↑x3:Int) == (21:Int)) eJ<|zX (yH [(2,yE [(1000000000000,1000000000000)] N4),(3,{k:=x4}),(4,yV (cV Vv))]) [yI N4,yB ([AV.sl 1 (au l),ai ↑k4].length= [AV.sl 1 (au l),ai ↑k5].length∧0< [AV.sl 1 (au l),ai ↑k5].length) ⟨rfl,Nat.succ_pos _⟩,yR (↑x4:Int),yO (x4<3),yI Lv,yL 4 17]<|aJ<|al (⟨(),trivial,(zW [.aa [6,5,4,3,0,1] [6,4,3,5,1000000000000]])⟩)
  rw [if_neg d3] at hE
  by_cases d4:x3=20
  ·rw [if_pos d4] at hE
   injection hE with h1 h2
   subst h1 h2
   refine zQ 1 [yH [(1,yE [(1000000000000,1000000000000)] N3)]] [yI N3,yB ([AV.sl 1 (au l),ai ↑k3].length= [AV.sl 1 (au l),ai ↑k5].length∧0< [AV.sl 1 (au l),ai ↑k5].length) ⟨rfl,Nat.succ_pos _⟩]<|zB 1<|zP 1 [{}] [.aa [70,69,6,5,4,3,0,1] [1000000000000,6,4,3,5]] []<|bk 70 ((↑x3:Int) == (23:Int)) bD<|zq<|bk 79 ((↑x3:Int) == (22:Int)) bD<|zP 1 [{}] [.aa [85,79,70,69,6,5,4,3,0,1] [1000000000000,6,4,3,5]] []<|bk 85 ((↑x3:Int) == (21:Int)) bD<|zq<|dB 93 ((↑x3:Int) == (20:Int)) eJ<|zX {} [yL 16 17]<|aJ<|al (⟨(),trivial,(zW [.aa [6,5,4,3,0,1] [6,4,3,5,1000000000000]])⟩)
  rw [if_neg d4] at hE
  by_cases d5:x3=19
  ·rw [if_pos d5] at hE
   obtain ⟨x4,zj⟩:∃x,x=ia l k4 12:=⟨_,rfl⟩
   obtain ⟨k6,Fg⟩:∃x,x=eg l k4:=⟨_,rfl⟩
   have N4:=dt l k4 12 a4 hl (by decide) (by decide)
   have b4:=lp l k4 (n:=12) (by decide)
   rw [←zj,←Fg] at hE
   rw [←zj,←Fg] at N4
   rw [←zj] at b4
   clear zj Fg
   injection hE with h1 h2
   subst h1 h2
   have Vj:IntKind.i64.wrap ((x4:Int)-1)=(x4:Int)-1:=by rw [IntKind.wrap_i64];omega
   refine zQ 1 [yH [(1,yE [(1000000000000,1000000000000)] N3)]] [yI N3,yB ([AV.sl 1 (au l),ai ↑k3].length= [AV.sl 1 (au l),ai ↑k4].length∧0< [AV.sl 1 (au l),ai ↑k4].length) ⟨rfl,Nat.succ_pos _⟩]<|zB 1<|zP 1 [{}] [.aa [70,69,6,5,4,3,0,1] [1000000000000,6,4,3,5]] []<|bk 70 ((↑x3:Int) == (23:Int)) bD<|zq<|bk 79 ((↑x3:Int) == (22:Int)) bD<|zP 1 [{}] [.aa [85,79,70,69,6,5,4,3,0,1] [1000000000000,6,4,3,5]] []<|bk 85 ((↑x3:Int) == (21:Int)) bD<|zq<|bk 93 ((↑x3:Int) == (20:Int)) bD<|zP 1 [{}] [.aa [96,93,85,79,70,69,6,5,4,3,0,1] [1000000000000,6,4,3,5]] []<|dB 96 ((↑x3:Int) == (19:Int)) eJ<|zX (yH [(1,yE [(1000000000000,1000000000000)] N4),(2,yV (ai ((↑x4:Int)-1)))]) [yI N4,yB ([AV.sl 1 (au l),ai ↑k4].length= [AV.sl 1 (au l),ai ↑k5].length∧0< [AV.sl 1 (au l),ai ↑k5].length) ⟨rfl,Nat.succ_pos _⟩,yN ((↑x4:Int)-1),yL 13 17]<|aJ<|al (⟨(),trivial,(zW [.aa [6,5,4,3,0,1] [6,4,3,5,1000000000000]])⟩)
  ·rw [if_neg d5] at hE
   injection hE with h1 h2
   subst h1 h2
   refine zQ 1 [yH [(1,yE [(1000000000000,1000000000000)] N3)]] [yI N3,yB ([AV.sl 1 (au l),ai ↑k3].length= [AV.sl 1 (au l),ai ↑k5].length∧0< [AV.sl 1 (au l),ai ↑k5].length) ⟨rfl,Nat.succ_pos _⟩]<|zB 1<|zP 1 [{}] [.aa [70,69,6,5,4,3,0,1] [1000000000000,6,4,3,5]] []<|bk 70 ((↑x3:Int) == (23:Int)) bD<|zq<|bk 79 ((↑x3:Int) == (22:Int)) bD<|zP 1 [{}] [.aa [85,79,70,69,6,5,4,3,0,1] [1000000000000,6,4,3,5]] []<|bk 85 ((↑x3:Int) == (21:Int)) bD<|zq<|bk 93 ((↑x3:Int) == (20:Int)) bD<|zP 1 [{}] [.aa [96,93,85,79,70,69,6,5,4,3,0,1] [1000000000000,6,4,3,5]] []<|bk 96 ((↑x3:Int) == (19:Int)) bD<|zK<|aJ<|al (⟨(),trivial,(zW [.aa [6,5,4,3,0,1] [6,4,3,5,1000000000000]])⟩)
 intro u hu
 refine zP 1 [{}] [.aa [6,5,4,3,0,1] [4,6,3,5,1000000000000]] [yL 17 17]<|zR (zG [] [yR (Value.int .i64 e2.aC),yR (Value.int .u64 (wv e2.prev)),yR (Value.int .i64 e2.kind),yR (Value.string (ByteArray.mk e2.name.toArray)),yR (Value.int .i64 e2.kh),yR (Value.int .u64 (wv e2.kr)),yR (Value.int .i64 e2.bA),yR (Value.int .u64 (wv e2.dep.bV)),yR (Value.int .u64 (wv e2.dep.peer)),yR (aj e2.dep.box),yR (af ay e2.dep.ae),yR (ah e2.dep.ax),yR (Value.int .i64 e2.dep.need),yR (Value.int .u64 (wv e2.dep.target)),yR (Value.int .u64 (wv e2.bV)),yR (Value.int .u64 (wv e2.target)),yR (af aL e2.ak),yR [AV.sl 1 (au l),ai ↑k5]])
end Go.Proofs.YtjgbhhnghedgdaaGreatDoor
