import Derived.Test.YtjgbhhnghedgdaaGreatDoorZpGrE3
set_option linter.all false
namespace Go.Proofs.YtjgbhhnghedgdaaGreatDoor
open Go.RowKit
set_option maxRecDepth 100000
set_option maxHeartbeats 4000000
def FI (e:fo):List AV:=[ai e.aA,aw e.prev,ai e.kind,cZ e.name,ai e.kh,aw e.kr,ai e.bt,aw e.dep.bF,aw e.dep.peer,.sl 1 (ag e.dep.box),.sl 1 (af ay e.dep.ae),.sl 1 (ah e.dep.au),ai e.dep.need,aw e.dep.target,aw e.bF,aw e.target,.nil]
def Vq:List (Nat×Nat):=[(9,1),(10,1),(11,1)]
theorem CT (l:List Int) (k k1 k2 x1 x2:Nat) (kd:Int) (S:fo×Nat) (g:gB) (hl:l.length≤9223372036854775807) (hG:nI g) (hP:S=ym l g kd x2 k2) (b1:x1<11) (b2:x2<10) (a2:k2≤l.length)
  (N1:gk Tryz.prog 24 [.addr 1000000000000 0,ai 11] (Et l k) (ai x1) (Et l k1)) (N2:gk Tryz.prog 24 [.addr 1000000000000 0,ai 10] (Et l k1) (ai x2) (Et l k2))
  (NV:(ax [1,1,1,2,3,4,4,5,5,0,6])[x1]?=some (ai kd)):gk Tryz.prog 16 [.addr 1000000000000 0,.agg (bV g)] (Et l k) (.agg (FI (A_ l S).1)) (Et l (A_ l S).2):=by
 obtain ⟨g1,g2,g3,g4,g5,g6⟩:=hG
 have Bs:=fK x2 aj
 have hw:IntKind.i64.wrap (g.aA+1)=g.aA+1:=by rw [IntKind.wrap_i64];omega
 unfold Et at *
 refine mV Tryz.func16 104<|zq<|zS<|zA 12 [7] [11] [(2,yV (ai (g.aA+1))),(5,yV (AV.arr (ax [(1:Int),(1:Int),(1:Int),(2:Int),(3:Int),(4:Int),(4:Int),(5:Int),(5:Int),(0:Int),(6:Int)]))),(7,{av:=some (ai ↑x1),ln:=[(1000000000000,1000000000000)],ho:=[(1000000000000,Row.mk 1 false true [AV.sl 1 (ax l),ai ↑k1])]}),(8,{k:=x1}),(9,yV (ai kd))] [yN (g.aA+1),yR [ai 1,ai 1,ai 1,ai 2,ai 3,ai 4,ai 4,ai 5,ai 5,ai 0,ai 6],yI N1,yB ([AV.sl 1 (ax l),ai ↑k].length= [AV.sl 1 (ax l),ai ↑k1].length∧0< [AV.sl 1 (ax l),ai ↑k1].length) ⟨rfl,Nat.succ_pos _⟩,yR (AV.addr 3 0),yR (ai g.aA),yR (ai (g.aA+1)),yN (g.aA+1),yR (AV.addr 3 1),yR (aw g.head),yR (AV.sl 1 (ax [(1:Int),(1:Int),(1:Int),(2:Int),(3:Int),(4:Int),(4:Int),(5:Int),(5:Int),(0:Int),(6:Int)])),yR [ai 1,ai 1,ai 1,ai 2,ai 3,ai 4,ai 4,ai 5,ai 5,ai 0,ai 6],yR (↑x1:Int),yI b1,yI NV,yL 17 17]<|ak<|bf.oe (bR.Mq 5 Vq bD)<|zP 1 [yH [(1,{av:=some (ai ↑x2),ln:=[(1000000000000,1000000000000)],ho:=[(1000000000000,Row.mk 1 false true [AV.sl 1 (ax l),ai ↑k2])]}),(2,yV (AV.agg (aI (dY x2))))]] [.aa [6,5,4,3,0,1] [6,1000000000000,5,4,3]] [yI N2,yB ([AV.sl 1 (ax l),ai ↑k1].length= [AV.sl 1 (ax l),ai ↑k2].length∧0< [AV.sl 1 (ax l),ai ↑k2].length) ⟨rfl,Nat.succ_pos _⟩,yI Bs,yL 4 4] (bf.k7 (fun (u:Unit)=>(⟨[(6,AV.addr 6 0),(5,AV.addr 5 0),(4,AV.addr 4 0),(3,AV.addr 3 0),(0,AV.addr 1000000000000 0),(1,AV.agg (bV g))],[(6,⟨1,false,true,(aI (dY x2))⟩),(4,⟨1,false,true,[ai 0,dW,ai 0,AV.val (Value.string (ByteArray.mk #[])),ai 0,dW,ai 0,dW,dW,AV.nil,AV.nil,AV.nil,ai 0,dW,dW,dW,AV.nil]⟩),(3,⟨1,false,true,List.map (aR 6) (List.map (aR 4) (List.map (aR 3) (bV g)))⟩),(5,⟨1,false,true,FI S.1⟩),(1000000000000,⟨1,false,true,[.sl 1 (ax l),ai S.2]⟩)]⟩:AS)) (fun u=>(S.2≤l.length∧S.1.aA=g.aA+1)) bD ?_ ?_)
 ·by_cases c1:kd=1
  ·have hS:S=({qc g kd with name:=(dY x2).name,kh:=(dY x2).h,kr:=(dY x2).r},k2):=hP.trans (if_pos c1)
   clear hP;subst hS
   refine zq<|zB 0<|zP 1 [{}] [.aa [23,22,6,5,4,3,0,1] [6,1000000000000,5,4,3]] []<|dr 23 (kd == (1:Int)) fi<|Bu 6 [5] [] [yL 4 17,yR (AV.addr 6 1),yR (AV.agg [ai ((dY x2).h),aw ((dY x2).r)]),yL 6 17]<|aL<|ak (⟨(),⟨a2,rfl⟩,(zW [.aa [6,5,4,3,0,1] [6,4,3,5,1000000000000]])⟩)
  by_cases c2:kd=2
  ·have hS:S=({qc g kd with name:=(dY x2).name},k2):=by rw [hP];unfold ym;rw [if_neg c1,if_pos c2]
   clear hP;subst hS
   refine zq<|zB 0<|zP 1 [{}] [.aa [23,22,6,5,4,3,0,1] [6,1000000000000,5,4,3]] []<|bj 23 (kd == (1:Int)) bE<|zq<|dr 31 (kd == (2:Int)) fi<|zX {} [yL 4 17]<|aL<|ak (⟨(),⟨a2,rfl⟩,(zW [.aa [6,5,4,3,0,1] [6,4,3,5,1000000000000]])⟩)
  by_cases c3:kd=3
  ·obtain ⟨x3,F8⟩:∃x,x=gi l k2 10:=⟨_,rfl⟩
   obtain ⟨k3,Cj⟩:∃x,x=dI l k2:=⟨_,rfl⟩
   have N3:=cF l k2 10 a2 hl (by decide) (by decide)
   have a3:=db a2
   have hS:S=({qc g kd with bt:=gi l k2 10},dI l k2):=by rw [hP];unfold ym;rw [if_neg c1,if_neg c2,if_pos c3]
   rw [←F8,←Cj] at hS
   rw [←F8,←Cj] at N3
   rw [←Cj] at a3
   clear hP F8 Cj;subst hS
   refine zq<|zB 0<|zP 1 [{}] [.aa [23,22,6,5,4,3,0,1] [6,1000000000000,5,4,3]] []<|bj 23 (kd == (1:Int)) bE<|zq<|bj 31 (kd == (2:Int)) bE<|zq<|dr 36 (kd == (3:Int)) fi<|zX (yH [(1,{av:=some (ai ↑x3),ln:=[(1000000000000,1000000000000)],ho:=[(1000000000000,Row.mk 1 false true [AV.sl 1 (ax l),ai ↑k3])]})]) [yI N3,yB ([AV.sl 1 (ax l),ai ↑k2].length= [AV.sl 1 (ax l),ai ↑k3].length∧0< [AV.sl 1 (ax l),ai ↑k3].length) ⟨rfl,Nat.succ_pos _⟩,yL 7 17]<|aL<|ak (⟨(),⟨a3,rfl⟩,(zW [.aa [6,5,4,3,0,1] [6,4,3,5,1000000000000]])⟩)
  by_cases c4:kd=4
  ·have N3:=yo l k2 g a2 hl g3
   unfold Et at N3
   have a3:=I0 g a2
   have hS:S=({qc g kd with dep:=Nh l g k2},Oi l g k2):=by rw [hP];unfold ym;rw [if_neg c1,if_neg c2,if_neg c3,if_pos c4]
   obtain ⟨D,hD⟩:∃x,x=Nh l g k2:=⟨_,rfl⟩
   obtain ⟨k3,Cj⟩:∃x,x=Oi l g k2:=⟨_,rfl⟩
   rw [←hD,←Cj] at hS
   rw [←hD,←Cj] at N3
   rw [←Cj] at a3
   clear hP hD Cj;subst hS
   refine zq<|zB 0<|zP 1 [{}] [.aa [23,22,6,5,4,3,0,1] [6,1000000000000,5,4,3]] []<|bj 23 (kd == (1:Int)) bE<|zq<|bj 31 (kd == (2:Int)) bE<|zq<|bj 36 (kd == (3:Int)) bE<|zP 1 [{}] [.aa [41,36,31,32,23,22,6,5,4,3,0,1] [6,1000000000000,5,4,3]] []<|dr 41 (kd == (4:Int)) fi<|zX (yH [(2,{av:=some (AV.agg (bg D)),ln:=[(1000000000000,1000000000000)],ho:=[(1000000000000,Row.mk 1 false true [AV.sl 1 (ax l),ai ↑k3])]})]) [yI N3,yB ([AV.sl 1 (ax l),ai ↑k2].length= [AV.sl 1 (ax l),ai ↑k3].length∧0< [AV.sl 1 (ax l),ai ↑k3].length) ⟨rfl,Nat.succ_pos _⟩,yL 14 17]<|aL<|ak (⟨(),⟨a3,rfl⟩,(zW [.aa [6,5,4,3,0,1] [6,4,3,5,1000000000000]])⟩)
  by_cases c5:kd=5
  ·obtain ⟨x3,F8⟩:∃x,x=gi l k2 5:=⟨_,rfl⟩
   obtain ⟨k3,Cj⟩:∃x,x=dI l k2:=⟨_,rfl⟩
   have N3:=cF l k2 5 a2 hl (by decide) (by decide)
   have a3:=db a2
   have hS:S=(if g.aJ.length=0 then ({qc g kd with target:=u64 (gi l k2 5)},dI l k2) else ({qc g kd with target:=u64 (gi l k2 5),bF:=(g.aJ.getD (gi l (dI l k2) g.aJ.length) default).bF},dI l (dI l k2))):=by rw [hP];unfold ym;rw [if_neg c1,if_neg c2,if_neg c3,if_neg c4,if_pos c5]
   rw [←F8,←Cj] at hS
   rw [←F8,←Cj] at N3
   rw [←Cj] at a3
   have qt:(af bg g.aJ).length=g.aJ.length*7:=aE (e:=7) (fun _=>rfl) ..
   by_cases c6:g.aJ.length=0
   ·rw [if_pos c6] at hS
    clear hP F8 Cj;subst hS
    refine zq<|zB 0<|zP 1 [{}] [.aa [23,22,6,5,4,3,0,1] [6,1000000000000,5,4,3]] []<|bj 23 (kd == (1:Int)) bE<|zq<|bj 31 (kd == (2:Int)) bE<|zq<|bj 36 (kd == (3:Int)) bE<|zP 1 [{}] [.aa [41,36,31,32,23,22,6,5,4,3,0,1] [6,1000000000000,5,4,3]] []<|bj 41 (kd == (4:Int)) bE<|zq<|dr 47 (kd == (5:Int)) fi<|zP 2 [yH [(1,{av:=some (ai ↑x3),ln:=[(1000000000000,1000000000000)],ho:=[(1000000000000,Row.mk 1 false true [AV.sl 1 (ax l),ai ↑k3])]}),(2,yV (aw (u64 (↑x3:Int))))],yH [(2,{k:=g.aJ.length})]] [.aa [56,47,41,36,31,32,23,22,6,5,4,3,0,1] [5,1000000000000,6,4,3]] [yI N3,yB ([AV.sl 1 (ax l),ai ↑k2].length= [AV.sl 1 (ax l),ai ↑k3].length∧0< [AV.sl 1 (ax l),ai ↑k3].length) ⟨rfl,Nat.succ_pos _⟩,yI (a8 ((↑x3:Int))),yL 16 17,yI qt]<|dp 56 ((↑g.aJ.length:Int)>0)<|zK<|aL<|ak (⟨(),⟨a3,rfl⟩,(zW [.aa [6,5,4,3,0,1] [6,4,3,5,1000000000000]])⟩)
   ·rw [if_neg c6] at hS
    have N4:=cF l k3 g.aJ.length a3 hl aj aj
    have a4:=db a3
    have b4:=kM l k3 (n:=g.aJ.length) aj
    obtain ⟨x4,xH⟩:∃x,x=gi l k3 g.aJ.length:=⟨_,rfl⟩
    obtain ⟨k4,Ay⟩:∃x,x=dI l k3:=⟨_,rfl⟩
    rw [←xH,←Ay] at hS
    rw [←xH,←Ay] at N4
    rw [←Ay] at a4
    rw [←xH] at b4
    have gT:=yn (l:=g.aJ) (i:=x4) aj
    clear hP F8 Cj xH Ay;subst hS
    refine zq<|zB 0<|zP 1 [{}] [.aa [23,22,6,5,4,3,0,1] [6,1000000000000,5,4,3]] []<|bj 23 (kd == (1:Int)) bE<|zq<|bj 31 (kd == (2:Int)) bE<|zq<|bj 36 (kd == (3:Int)) bE<|zP 1 [{}] [.aa [41,36,31,32,23,22,6,5,4,3,0,1] [6,1000000000000,5,4,3]] []<|bj 41 (kd == (4:Int)) bE<|zq<|dr 47 (kd == (5:Int)) fi<|zP 2 [yH [(1,{av:=some (ai ↑x3),ln:=[(1000000000000,1000000000000)],ho:=[(1000000000000,Row.mk 1 false true [AV.sl 1 (ax l),ai ↑k3])]}),(2,yV (aw (u64 (↑x3:Int))))],yH [(2,{k:=g.aJ.length})]] [.aa [56,47,41,36,31,32,23,22,6,5,4,3,0,1] [5,1000000000000,6,4,3]] [yI N3,yB ([AV.sl 1 (ax l),ai ↑k2].length= [AV.sl 1 (ax l),ai ↑k3].length∧0< [AV.sl 1 (ax l),ai ↑k3].length) ⟨rfl,Nat.succ_pos _⟩,yI (a8 ((↑x3:Int))),yL 16 17,yI qt]<|ib 56 ((↑g.aJ.length:Int)>0)<|Bu 7 [6] [(5,{k:=g.aJ.length}),(6,{av:=some (ai ↑x4),ln:=[(1000000000000,1000000000000)],ho:=[(1000000000000,Row.mk 1 false true [AV.sl 1 (ax l),ai ↑k4])]}),(7,{k:=x4}),(9,yV (aw ((g.aJ.getD x4 default).bF)))] [yI qt,yI N4,yB ([AV.sl 1 (ax l),ai ↑k3].length= [AV.sl 1 (ax l),ai ↑k4].length∧0< [AV.sl 1 (ax l),ai ↑k4].length) ⟨rfl,Nat.succ_pos _⟩,yR (AV.addr 3 4),yR (AV.sl 7 (af bg g.aJ)),yR (↑x4:Int),yO (x4*7<(af bg g.aJ).length),yA bg g.aJ x4 0,yL 15 17]<|aL<|ak (⟨(),⟨a4,rfl⟩,(zW [.aa [6,5,4,3,0,1] [6,4,3,5,1000000000000]])⟩)
  ·have hS:S=(qc g kd,k2):=by rw [hP];unfold ym;rw [if_neg c1,if_neg c2,if_neg c3,if_neg c4,if_neg c5]
   clear hP;subst hS
   refine zq<|zB 0<|zP 1 [{}] [.aa [23,22,6,5,4,3,0,1] [6,1000000000000,5,4,3]] []<|bj 23 (kd == (1:Int)) bE<|zq<|bj 31 (kd == (2:Int)) bE<|zq<|bj 36 (kd == (3:Int)) bE<|zP 1 [{}] [.aa [41,36,31,32,23,22,6,5,4,3,0,1] [6,1000000000000,5,4,3]] []<|bj 41 (kd == (4:Int)) bE<|zq<|bj 47 (kd == (5:Int)) bE<|zK<|aL<|ak (⟨(),⟨a2,rfl⟩,(zW [.aa [6,5,4,3,0,1] [6,4,3,5,1000000000000]])⟩)
 intro u hu
 clear hP N1 N2 NV Bs
 obtain ⟨e1,k3⟩:=S
 obtain ⟨hu,UG⟩:=hu
 simp only at hu UG ⊢
 obtain ⟨x3,F8⟩:∃x,x=gi l k3 24:=⟨_,rfl⟩
 obtain ⟨k4,Ay⟩:∃x,x=dI l k3:=⟨_,rfl⟩
 have N3:=cF l k3 24 hu hl (by decide) (by decide)
 have a4:=db hu
 rw [←F8,←Ay] at N3
 rw [←Ay] at a4
 have hE:A_ l (e1,k3)=if x3=23 then ({e1 with aA:=e1.aA+((gi l k4 3:Int)-1)},dI l k4) else if x3=22 then ({e1 with prev:=e1.prev+1},k4) else if x3=21 then ({e1 with name:=qR.getD (gi l k4 3) []},dI l k4) else if x3=20 then ({e1 with target:=7},k4) else if x3=19 then ({e1 with dep:={e1.dep with need:=(gi l k4 12:Int)-1}},dI l k4) else (e1,k4):=by unfold A_;rw [F8,Ay]
 clear F8 Ay
 generalize hT:A_ l (e1,k3)=T at *
 obtain ⟨e2,k5⟩:=T
 simp only
 clear hT
 refine bf.k7 (fun (u:Unit)=>(⟨[(6,AV.addr 6 0),(5,AV.addr 5 0),(4,AV.addr 4 0),(3,AV.addr 3 0),(0,AV.addr 1000000000000 0),(1,AV.agg (bV g))],[(6,⟨1,false,true,(aI (dY x2))⟩),(4,⟨1,false,true,[ai 0,dW,ai 0,AV.val (Value.string (ByteArray.mk #[])),ai 0,dW,ai 0,dW,dW,AV.nil,AV.nil,AV.nil,ai 0,dW,dW,dW,AV.nil]⟩),(3,⟨1,false,true,List.map (aR 6) (List.map (aR 4) (List.map (aR 3) (bV g)))⟩),(5,⟨1,false,true,FI e2⟩),(1000000000000,⟨1,false,true,[.sl 1 (ax l),ai k5]⟩)]⟩:AS)) (fun u=>(True)) bD ?_ ?_
 ·by_cases d1:x3=23
  ·rw [if_pos d1] at hE
   obtain ⟨x4,xH⟩:∃x,x=gi l k4 3:=⟨_,rfl⟩
   obtain ⟨k6,Fl⟩:∃x,x=dI l k4:=⟨_,rfl⟩
   have N4:=cF l k4 3 a4 hl (by decide) (by decide)
   have b4:=kM l k4 (n:=3) (by decide)
   rw [←xH,←Fl] at hE
   rw [←xH,←Fl] at N4
   rw [←xH] at b4
   clear xH Fl
   injection hE with h1 h2
   subst h1 h2
   have TK:IntKind.i64.wrap ((x4:Int)-1)=(x4:Int)-1:=by rw [IntKind.wrap_i64];omega
   have Vz:IntKind.i64.wrap (e1.aA+((x4:Int)-1))=e1.aA+((x4:Int)-1):=by rw [IntKind.wrap_i64];omega
   refine zQ 1 [yH [(1,{av:=some (ai ↑x3),ln:=[(1000000000000,1000000000000)],ho:=[(1000000000000,Row.mk 1 false true [AV.sl 1 (ax l),ai ↑k4])]})]] [yI N3,yB ([AV.sl 1 (ax l),ai ↑k3].length= [AV.sl 1 (ax l),ai ↑k4].length∧0< [AV.sl 1 (ax l),ai ↑k4].length) ⟨rfl,Nat.succ_pos _⟩]<|zB 1<|zP 1 [{}] [.aa [70,69,6,5,4,3,0,1] [1000000000000,6,4,3,5]] []<|dr 70 ((↑x3:Int) == (23:Int)) fi<|Bu 5 [3] [(3,{av:=some (ai ↑x4),ln:=[(1000000000000,1000000000000)],ho:=[(1000000000000,Row.mk 1 false true [AV.sl 1 (ax l),ai ↑k5])]}),(4,yV (ai ((↑x4:Int)-1))),(5,yV (ai (e1.aA+((↑x4:Int)-1))))] [yI N4,yB ([AV.sl 1 (ax l),ai ↑k4].length= [AV.sl 1 (ax l),ai ↑k5].length∧0< [AV.sl 1 (ax l),ai ↑k5].length) ⟨rfl,Nat.succ_pos _⟩,yR (AV.addr 5 0),yR (ai e1.aA),yN ((↑x4:Int)-1),yN (e1.aA+((↑x4:Int)-1)),yL 1 17]<|aL<|ak (⟨(),trivial,(zW [.aa [6,5,4,3,0,1] [6,4,3,5,1000000000000]])⟩)
  rw [if_neg d1] at hE
  by_cases d2:x3=22
  ·rw [if_pos d2] at hE
   injection hE with h1 h2
   subst h1 h2
   refine zQ 1 [yH [(1,{av:=some (ai ↑x3),ln:=[(1000000000000,1000000000000)],ho:=[(1000000000000,Row.mk 1 false true [AV.sl 1 (ax l),ai ↑k5])]})]] [yI N3,yB ([AV.sl 1 (ax l),ai ↑k3].length= [AV.sl 1 (ax l),ai ↑k5].length∧0< [AV.sl 1 (ax l),ai ↑k5].length) ⟨rfl,Nat.succ_pos _⟩]<|zB 1<|zP 1 [{}] [.aa [70,69,6,5,4,3,0,1] [1000000000000,6,4,3,5]] []<|bj 70 ((↑x3:Int) == (23:Int)) bE<|zq<|dr 79 ((↑x3:Int) == (22:Int)) fi<|zX (yH [(2,yV (aw (e1.prev+1)))]) [yR (aw (e1.prev+1)),yL 2 17]<|aL<|ak (⟨(),trivial,(zW [.aa [6,5,4,3,0,1] [6,4,3,5,1000000000000]])⟩)
  rw [if_neg d2] at hE
  by_cases d3:x3=21
  ·rw [if_pos d3] at hE
   obtain ⟨x4,xH⟩:∃x,x=gi l k4 3:=⟨_,rfl⟩
   obtain ⟨k6,Fl⟩:∃x,x=dI l k4:=⟨_,rfl⟩
   have N4:=cF l k4 3 a4 hl (by decide) (by decide)
   have b4:=kM l k4 (n:=3) (by decide)
   rw [←xH,←Fl] at hE
   rw [←xH,←Fl] at N4
   rw [←xH] at b4
   have Kz:=Hn (n:=x4) aj
   generalize qR.getD x4 []=TX at *
   clear xH Fl
   injection hE with h1 h2
   subst h1 h2
   refine zQ 1 [yH [(1,{av:=some (ai ↑x3),ln:=[(1000000000000,1000000000000)],ho:=[(1000000000000,Row.mk 1 false true [AV.sl 1 (ax l),ai ↑k4])]})]] [yI N3,yB ([AV.sl 1 (ax l),ai ↑k3].length= [AV.sl 1 (ax l),ai ↑k4].length∧0< [AV.sl 1 (ax l),ai ↑k4].length) ⟨rfl,Nat.succ_pos _⟩]<|zB 1<|zP 1 [{}] [.aa [70,69,6,5,4,3,0,1] [1000000000000,6,4,3,5]] []<|bj 70 ((↑x3:Int) == (23:Int)) bE<|zq<|bj 79 ((↑x3:Int) == (22:Int)) bE<|zP 1 [{}] [.aa [85,79,70,69,6,5,4,3,0,1] [1000000000000,6,4,3,5]] []<|dr 85 ((↑x3:Int) == (21:Int)) fi<|zX (yH [(2,{av:=some (ai ↑x4),ln:=[(1000000000000,1000000000000)],ho:=[(1000000000000,Row.mk 1 false true [AV.sl 1 (ax l),ai ↑k5])]}),(3,{k:=x4}),(4,yV (cZ TX))]) [yI N4,yB ([AV.sl 1 (ax l),ai ↑k4].length= [AV.sl 1 (ax l),ai ↑k5].length∧0< [AV.sl 1 (ax l),ai ↑k5].length) ⟨rfl,Nat.succ_pos _⟩,yR (↑x4:Int),yO (x4<3),yI Kz,yL 4 17]<|aL<|ak (⟨(),trivial,(zW [.aa [6,5,4,3,0,1] [6,4,3,5,1000000000000]])⟩)
  rw [if_neg d3] at hE
  by_cases d4:x3=20
  ·rw [if_pos d4] at hE
   injection hE with h1 h2
   subst h1 h2
   refine zQ 1 [yH [(1,{av:=some (ai ↑x3),ln:=[(1000000000000,1000000000000)],ho:=[(1000000000000,Row.mk 1 false true [AV.sl 1 (ax l),ai ↑k5])]})]] [yI N3,yB ([AV.sl 1 (ax l),ai ↑k3].length= [AV.sl 1 (ax l),ai ↑k5].length∧0< [AV.sl 1 (ax l),ai ↑k5].length) ⟨rfl,Nat.succ_pos _⟩]<|zB 1<|zP 1 [{}] [.aa [70,69,6,5,4,3,0,1] [1000000000000,6,4,3,5]] []<|bj 70 ((↑x3:Int) == (23:Int)) bE<|zq<|bj 79 ((↑x3:Int) == (22:Int)) bE<|zP 1 [{}] [.aa [85,79,70,69,6,5,4,3,0,1] [1000000000000,6,4,3,5]] []<|bj 85 ((↑x3:Int) == (21:Int)) bE<|zq<|dr 93 ((↑x3:Int) == (20:Int)) fi<|zX {} [yL 16 17]<|aL<|ak (⟨(),trivial,(zW [.aa [6,5,4,3,0,1] [6,4,3,5,1000000000000]])⟩)
  rw [if_neg d4] at hE
  by_cases d5:x3=19
  ·rw [if_pos d5] at hE
   obtain ⟨x4,xH⟩:∃x,x=gi l k4 12:=⟨_,rfl⟩
   obtain ⟨k6,Fl⟩:∃x,x=dI l k4:=⟨_,rfl⟩
   have N4:=cF l k4 12 a4 hl (by decide) (by decide)
   have b4:=kM l k4 (n:=12) (by decide)
   rw [←xH,←Fl] at hE
   rw [←xH,←Fl] at N4
   rw [←xH] at b4
   clear xH Fl
   injection hE with h1 h2
   subst h1 h2
   have TK:IntKind.i64.wrap ((x4:Int)-1)=(x4:Int)-1:=by rw [IntKind.wrap_i64];omega
   refine zQ 1 [yH [(1,{av:=some (ai ↑x3),ln:=[(1000000000000,1000000000000)],ho:=[(1000000000000,Row.mk 1 false true [AV.sl 1 (ax l),ai ↑k4])]})]] [yI N3,yB ([AV.sl 1 (ax l),ai ↑k3].length= [AV.sl 1 (ax l),ai ↑k4].length∧0< [AV.sl 1 (ax l),ai ↑k4].length) ⟨rfl,Nat.succ_pos _⟩]<|zB 1<|zP 1 [{}] [.aa [70,69,6,5,4,3,0,1] [1000000000000,6,4,3,5]] []<|bj 70 ((↑x3:Int) == (23:Int)) bE<|zq<|bj 79 ((↑x3:Int) == (22:Int)) bE<|zP 1 [{}] [.aa [85,79,70,69,6,5,4,3,0,1] [1000000000000,6,4,3,5]] []<|bj 85 ((↑x3:Int) == (21:Int)) bE<|zq<|bj 93 ((↑x3:Int) == (20:Int)) bE<|zP 1 [{}] [.aa [96,93,85,79,70,69,6,5,4,3,0,1] [1000000000000,6,4,3,5]] []<|dr 96 ((↑x3:Int) == (19:Int)) fi<|zX (yH [(1,{av:=some (ai ↑x4),ln:=[(1000000000000,1000000000000)],ho:=[(1000000000000,Row.mk 1 false true [AV.sl 1 (ax l),ai ↑k5])]}),(2,yV (ai ((↑x4:Int)-1)))]) [yI N4,yB ([AV.sl 1 (ax l),ai ↑k4].length= [AV.sl 1 (ax l),ai ↑k5].length∧0< [AV.sl 1 (ax l),ai ↑k5].length) ⟨rfl,Nat.succ_pos _⟩,yN ((↑x4:Int)-1),yL 13 17]<|aL<|ak (⟨(),trivial,(zW [.aa [6,5,4,3,0,1] [6,4,3,5,1000000000000]])⟩)
  ·rw [if_neg d5] at hE
   injection hE with h1 h2
   subst h1 h2
   refine zQ 1 [yH [(1,{av:=some (ai ↑x3),ln:=[(1000000000000,1000000000000)],ho:=[(1000000000000,Row.mk 1 false true [AV.sl 1 (ax l),ai ↑k5])]})]] [yI N3,yB ([AV.sl 1 (ax l),ai ↑k3].length= [AV.sl 1 (ax l),ai ↑k5].length∧0< [AV.sl 1 (ax l),ai ↑k5].length) ⟨rfl,Nat.succ_pos _⟩]<|zB 1<|zP 1 [{}] [.aa [70,69,6,5,4,3,0,1] [1000000000000,6,4,3,5]] []<|bj 70 ((↑x3:Int) == (23:Int)) bE<|zq<|bj 79 ((↑x3:Int) == (22:Int)) bE<|zP 1 [{}] [.aa [85,79,70,69,6,5,4,3,0,1] [1000000000000,6,4,3,5]] []<|bj 85 ((↑x3:Int) == (21:Int)) bE<|zq<|bj 93 ((↑x3:Int) == (20:Int)) bE<|zP 1 [{}] [.aa [96,93,85,79,70,69,6,5,4,3,0,1] [1000000000000,6,4,3,5]] []<|bj 96 ((↑x3:Int) == (19:Int)) bE<|zK<|aL<|ak (⟨(),trivial,(zW [.aa [6,5,4,3,0,1] [6,4,3,5,1000000000000]])⟩)
 intro u hu
 refine zP 1 [{}] [.aa [6,5,4,3,0,1] [4,6,3,5,1000000000000]] [yL 17 17]<|zR (zG [] [yR (Value.int .i64 e2.aA),yR (Value.int .u64 (wv e2.prev)),yR (Value.int .i64 e2.kind),yR (Value.string (ByteArray.mk e2.name.toArray)),yR (Value.int .i64 e2.kh),yR (Value.int .u64 (wv e2.kr)),yR (Value.int .i64 e2.bt),yR (Value.int .u64 (wv e2.dep.bF)),yR (Value.int .u64 (wv e2.dep.peer)),yR (ag e2.dep.box),yR (af ay e2.dep.ae),yR (ah e2.dep.au),yR (Value.int .i64 e2.dep.need),yR (Value.int .u64 (wv e2.dep.target)),yR (Value.int .u64 (wv e2.bF)),yR (Value.int .u64 (wv e2.target)),yR [AV.sl 1 (ax l),ai ↑k5]])
theorem A9 (l:List Int) (k:Nat) (g:gB) (hk:k≤l.length) (hl:l.length≤9223372036854775807) (hG:nI g):gk Tryz.prog 16 [.addr 1000000000000 0,.agg (bV g)] (Et l k) (.agg (FI (K3 l g k).1)) (Et l (K3 l g k).2) :=
 CT l k (dI l k) (dI l (dI l k)) (gi l k 11) (gi l (dI l k) 10) _ _ g hl hG rfl (by have:=kM l k (n:=11) aj;omega) (by have:=kM l (dI l k) (n:=10) aj;omega) (db (db hk)) (cF l k 11 hk hl (by decide) (by decide)) (cF l (dI l k) 10 (db hk) hl (by decide) (by decide)) (HB (by have:=kM l k (n:=11) aj;omega))
end Go.Proofs.YtjgbhhnghedgdaaGreatDoor
