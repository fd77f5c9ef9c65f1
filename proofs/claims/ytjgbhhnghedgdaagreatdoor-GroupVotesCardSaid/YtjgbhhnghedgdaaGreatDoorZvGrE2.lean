import Derived.Test.YtjgbhhnghedgdaaGreatDoorZvGrV1
set_option linter.all false
namespace Go.Proofs.YtjgbhhnghedgdaaGreatDoor
open Go.RowKit
set_option maxRecDepth 100000
set_option maxHeartbeats 4000000
def HF (f:Nat->Int) (i:Nat) (v:Int):Nat->Int:=fun j=>if j=i then v else f j
def bB (e:fC) (nx:Nat->Int) (dH:Nat):Nat->fC×(Nat->Int)
 | 0=>(e,nx)
 | i+1=>if dH.testBit i=true∧iB (bB e nx dH i).1 (eK i).name 4 ((bB e nx dH i).2 i)=0 then (pc (bB e nx dH i).1 (eK i).name (300+u64 i) 4 ((bB e nx dH i).2 i),HF (bB e nx dH i).2 i ((bB e nx dH i).2 i+1)) else bB e nx dH i
theorem Nv (f:Nat->Int) {i:Nat} (h:i<10) (v:Int):(Bo f).set i (ai v)=Bo (HF f i v):=by
 rcases i with _|_|_|_|_|_|_|_|_|_|i<;>first|rfl|omega
theorem BA (l:List ic) (v:ic):(lA l v).length=l.length+1:=by
 have:=EL l v.name
 unfold lA
 simp only [List.length_append,List.length_take,List.length_drop,List.length_cons,List.length_nil]
 omega
theorem Na {e:fC} (hB:nB e) {n:List UInt8} {seed:UInt64} {h leaf:Int} (hq:iB e n h leaf=0):nB (pc e n seed h leaf)∧(pc e n seed h leaf).ak.length=e.ak.length+1:=by
 have cf:pc e n seed h leaf= {e with ak:=lA e.ak ⟨n,np h leaf,mN seed h leaf (cJ e),mM seed h leaf⟩}:=if_neg (fun q=>q hq)
 rw [cf]
 exact ⟨⟨hB.Rv,hB.dep⟩,BA _ _⟩
theorem uP {e:fC} (hB:nB e) (nx:Nat->Int) (dH:Nat):∀i,nB (bB e nx dH i).1∧(bB e nx dH i).1.ak.length≤e.ak.length+i
 | 0=>⟨hB,Nat.le_refl _⟩
 | i+1=>by
  obtain ⟨h1,h2⟩:=uP hB nx dH i
  unfold bB
  split
  ·rename_i q
   obtain ⟨h3,h4⟩:=Na (seed:=300+u64 i) h1 q.2
   exact ⟨h3,by show (pc _ _ _ _ _).ak.length≤_;omega⟩
  ·exact ⟨h1,ag⟩
theorem AD {e:fC} {n:List UInt8} {leaf:Int} (h:iB e n 4 leaf=0):0≤leaf∧leaf<16:=by
 have hs:wS 4 leaf=0:=by
  unfold iB at h
  split at h
  ·rename_i q;exact absurd h q
  split at h
  ·omega
  ·exact h
 have nb:¬iZ 4 leaf:=by
  intro q;unfold wS at hs;rw [if_pos q] at hs;omega
 unfold iZ at nb
 have:(2:Nat)^(4:Int).toNat=16:=rfl
 omega
theorem Ng {w i:Nat} (hw:w<1024) (hi:i<10):IntKind.i64.wrap ((BitVec.ofInt IntKind.i64.bits ((w/2^i:Nat):Int)&&&BitVec.ofInt IntKind.i64.bits 1).toNat:Nat)=if w.testBit i=true then 1 else 0:=by
 rw [BitVec.toNat_and,BitVec.toNat_ofInt,BitVec.toNat_ofInt,show ((1:Int)%((2^IntKind.i64.bits:Nat):Int)).toNat=1 by rfl]
 have hq:w/2^i<1024:=Nat.lt_of_le_of_lt (Nat.div_le_self _ _) hw
 rw [Nat.testBit_eq_decide_div_mod_eq]
 generalize w/2^i=q at *
 rw [show (((q:Nat):Int)%((2^IntKind.i64.bits:Nat):Int)).toNat=q by show (((q:Nat):Int)%18446744073709551616).toNat=_;omega]
 rw [Nat.and_one_is_mod]
 have:q%2<2:=Nat.mod_lt _ (by decide)
 by_cases c:q%2=1
 ·rw [c];decide
 ·rw [show q%2=0 by omega];decide
theorem K0 (w:Nat) {i:Nat} (hi:i<10):((w:Nat):Int).fdiv (2^min ((i:Nat):Int).toNat IntKind.i64.bits)=((w/2^i:Nat):Int):=by
 rw [show min ((i:Nat):Int).toNat IntKind.i64.bits=i from Nat.min_eq_left (by show i≤64;omega),Int.fdiv_eq_ediv_of_nonneg _ (Int.pow_nonneg (by decide))]
 push_cast
 rfl
theorem uO (lL:∀e,nB e->bG Tryz.prog 40 [.agg (bf e)] (.cw [.own 1 (aj (iJ e)),ai (fa e)])) (c:tR) (e:fC) (dH:Nat) (hw:dH<1024) (hB:nB e) (hv:e.ak.length≤900000):bG Tryz.prog 22 [.agg (lr c),.agg (bf e),ai dH] (.cw [.agg (bf (bB e c.nx dH 10).1),.arr (Bo (bB e c.nx dH 10).2)]):=by
 refine zO Tryz.func22 48<|zP 2 [yH [(3,yV (AV.arr (au (List.replicate 10 (0:Int)))))],yH [(1,yV (AV.agg [ai (c.nx 0),ai (c.nx 1),ai (c.nx 2),ai (c.nx 3),ai (c.nx 4),ai (c.nx 5),ai (c.nx 6),ai (c.nx 7),ai (c.nx 8),ai (c.nx 9)])),(2,yV (AV.arr (au (List.replicate 10 (0:Int)))))]] [.aa [8,7,6,4,3,0,1,2] [8,7,6,4,3]] [yR (au (List.replicate 10 (0:Int))),yR (List.take 10 (List.drop 6 (List.map (aF 7) (List.map (aF 6) (List.map (aF 4) (List.map (aF 3) (lr c))))))),yR 10,yR (au (List.replicate 10 (0:Int))),yL 10 10]<|zS<|zq<|zB 0 (zL (fun (i:Nat)=>(⟨[(8,AV.addr 8 0),(7,AV.addr 7 0),(6,AV.addr 6 0),(4,AV.addr 4 0),(3,AV.addr 3 0),(0,AV.agg [ai c.cH.aC,aw c.cH.head,ai c.cH.bA,AV.sl 4 (af aT c.cH.aq),AV.sl 7 (af bj c.cH.aU),AV.sl 17 (af bf c.log),ai (c.nx 0),ai (c.nx 1),ai (c.nx 2),ai (c.nx 3),ai (c.nx 4),ai (c.nx 5),ai (c.nx 6),ai (c.nx 7),ai (c.nx 8),ai (c.nx 9)]),(1,AV.agg (bf e)),(2,ai ↑dH),(9,ai i)],[(7,⟨1,true,true,au (List.replicate 10 (0:Int))⟩),(6,⟨1,false,true,[ai 0,ez,ai 0,AV.val (Value.string (ByteArray.mk #[])),ai 0,ez,ai 0,ez,ez,AV.nil,AV.nil,AV.nil,ai 0,ez,ez,ez,AV.nil]⟩),(3,⟨1,false,true,List.map (aF 8) (List.map (aF 7) (List.map (aF 6) (List.map (aF 4) (List.map (aF 3) (lr c)))))⟩),(4,⟨1,false,true,bf (bB e c.nx dH i).1⟩),(8,⟨1,true,true,Bo (bB e c.nx dH i).2⟩)]⟩:AS)) (fun i=>(i≤10)) (fun i=>(10-i)) (0) ?_ (zW [.aa [8,7,6,4,3,0,1,2,9] [7,6,3,4,8]]) ?_)
 ·omega
 intro i hi
 obtain ⟨b1,b2⟩:=uP hB c.nx dH i
 refine zS<|bg.mj 1 [{}] bu (s':=AS.mk [(15,ao (decide ((↑i:Int)<10))),(14,ai ↑i),(8,AV.addr 8 0),(7,AV.addr 7 0),(6,AV.addr 6 0),(4,AV.addr 4 0),(3,AV.addr 3 0),(0,AV.agg [ai c.cH.aC,aw c.cH.head,ai c.cH.bA,AV.sl 4 (af aT c.cH.aq),AV.sl 7 (af bj c.cH.aU),AV.sl 17 (af bf c.log),ai (c.nx 0),ai (c.nx 1),ai (c.nx 2),ai (c.nx 3),ai (c.nx 4),ai (c.nx 5),ai (c.nx 6),ai (c.nx 7),ai (c.nx 8),ai (c.nx 9)]),(1,AV.agg (bf e)),(2,ai ↑dH),(9,ai ↑i)] [(7,Row.mk 1 true true (au (List.replicate 10 (0:Int)))),(6,Row.mk 1 false true [ai 0,ez,ai 0,AV.val (Value.string (ByteArray.mk #[])),ai 0,ez,ai 0,ez,ez,AV.nil,AV.nil,AV.nil,ai 0,ez,ez,ez,AV.nil]),(3,Row.mk 1 false true (List.map (aF 8) (List.map (aF 7) (List.map (aF 6) (List.map (aF 4) (List.map (aF 3) (lr c))))))),(4,Row.mk 1 false true (bf (bB e c.nx dH i).fst)),(8,Row.mk 1 true true (Bo (bB e c.nx dH i).snd))]) (C:=[]) bu trivial (zD 15 ((↑i:Int)<10) (fun q=>?_) (fun q=>?_))
 ·have dI:i<10:=ag
  have QT:=lL _ b1
  have oT:=f_ i dI
  have t_:=sS (bB e c.nx dH i).1 (eK i).name (300+u64 i) 4 ((bB e c.nx dH i).2 i) ag QT
  have ME:=PT (bB e c.nx dH i).2 dI
  have VI:=Nv (bB e c.nx dH i).2 dI ((bB e c.nx dH i).2 i+1)
  have NG:IntKind.u64.wrap ((i:Nat):Int)=(i:Int):=by rw [IntKind.wrap_u64];omega
  have Gp:=K0 dH dI
  have Qd:=Ng hw dI
  have dJ:bB e c.nx dH (i+1)=if dH.testBit i=true∧iB (bB e c.nx dH i).1 (eK i).name 4 ((bB e c.nx dH i).2 i)=0 then (pc (bB e c.nx dH i).1 (eK i).name (300+u64 i) 4 ((bB e c.nx dH i).2 i),HF (bB e c.nx dH i).2 i ((bB e c.nx dH i).2 i+1)) else bB e c.nx dH i:=rfl
  generalize bB e c.nx dH i=S at *
  clear lL QT
  by_cases tb:dH.testBit i=true
  case neg =>
   rw [if_neg tb] at Qd
   rw [if_neg (fun q=>tb q.1)] at dJ
   refine a_<|zS<|zB 1<|zS<|zP 1 [yH [(2,yV (AV.val (Value.int .u64 (↑i:Int)))),(3,yV (ai (↑(dH/(2:Nat)^i):Int))),(4,yV (ai 0))]] [.aa [23,15,8,7,6,4,3,0,1,2,9] [7,6,3,4,8]] [yI (yd NG),yI (yc Gp),yO ((0:Int)≤(↑i:Int)),yI (yc Qd)]<|dB 23 ((0:Int) == (0:Int)) eJ<|zE 1<|a6<|bm<|al<|zX (yH [(1,yV (ai ((↑i:Int)+1)))]) [yN ((↑i:Int)+1)] (aH (i+1) (by assumption) ag (eS [.aa [8,7,6,4,3,0,1,2,9] [7,6,3,4,8]] [] [4,8] [yB (bf S.fst=bf (bB e c.nx dH (i+1)).fst) (by rw [dJ]),yB (Bo S.snd=Bo (bB e c.nx dH (i+1)).snd) (by rw [dJ])]))
  rw [if_pos tb] at Qd
  by_cases cq:iB S.1 (eK i).name 4 (S.2 i)=0
  case neg =>
   rw [if_neg (fun q=>cq q.2)] at dJ
   have SB:yi S.1 (eK i).name (300+u64 i) 4 (S.2 i)=ij:=if_neg cq
   rw [SB] at t_
   refine a_<|zS<|zB 1<|zS<|zP 1 [yH [(2,yV (AV.val (Value.int .u64 (↑i:Int)))),(3,yV (ai (↑(dH/(2:Nat)^i):Int))),(4,yV (ai 1)),(5,yV (ao false))]] [.aa [23,15,8,7,6,4,3,0,1,2,9] [7,6,3,4,8]] [yI (yd NG),yI (yc Gp),yB ((0:Int)≤(↑i:Int)) (by simp [cq]),yI (yc Qd),yR (ao false)]<|zF 23<|a_<|zS<|Ax 16 [14,15] [(2,yC oT),(5,yV (aw (u64 (↑i:Int)))),(6,yV (aw (300+u64 (↑i:Int)))),(8,{k:=i}),(9,yV (ai (S.snd i))),(10,yC t_)] ([yI oT,yI (a7 ((↑i:Int))),yR (aw (300+u64 (↑i:Int))),yR (↑i:Int),yI dI,yI ME,yI t_,yR (AV.agg (bf S.fst)),yR (ai ↑i),yR (AV.agg (aT (eK i))),yI oT,yR (cV (eK i).name),yR (ai ↑i),yR (aw (u64 (↑i:Int))),yI (a7 ((↑i:Int)))]++yM 2 (yR (aw (300+u64 (↑i:Int))))++ [yR (ai ↑i),yR (AV.addr 8 i),yR (↑i:Int),yI dI,yR (ai (S.snd i)),yI ME,yR (AV.cw [AV.agg [ai 0,aw 0,ai 0,AV.val (Value.string (ByteArray.mk #[])),ai 0,aw 0,ai 0,aw 0,aw 0,AV.nil,AV.nil,AV.nil,ai 0,aw 0,aw 0,aw 0,AV.nil],ai (iB S.fst (eK i).name (4:Int) (S.snd i))]),yI t_,yR (AV.cw [AV.agg [ai 0,aw 0,ai 0,AV.val (Value.string (ByteArray.mk #[])),ai 0,aw 0,ai 0,aw 0,aw 0,AV.nil,AV.nil,AV.nil,ai 0,aw 0,aw 0,aw 0,AV.nil],ai (iB S.fst (eK i).name (4:Int) (S.snd i))]),yR (AV.agg [ai 0,aw 0,ai 0,AV.val (Value.string (ByteArray.mk #[])),ai 0,aw 0,ai 0,aw 0,aw 0,AV.nil,AV.nil,AV.nil,ai 0,aw 0,aw 0,aw 0,AV.nil]),yR (ai (iB S.fst (eK i).name (4:Int) (S.snd i))),yL 17 17,yR (ai (iB S.fst (eK i).name (4:Int) (S.snd i)))])<|al<|bg.rz [.aa [11,32,10,23,15,8,7,6,4,3,0,1,2,9] [10,7,6,3,4,8]] bu<|zP 1 [yH [(1,yV (ao false))]] [.aa [39,11,32,10,23,15,8,7,6,4,3,0,1,2,9] [10,7,6,3,4,8]] [yB (ao (iB S.fst (eK i).name (4:Int) (S.snd i) == (0:Int))=ao false) (by simp [cq])]<|zF 39<|zK<|aJ<|al<|zX (yH [(1,yV (ai ((↑i:Int)+1)))]) [yN ((↑i:Int)+1)] (aH (i+1) (by assumption) ag (eS [.aa [8,7,6,4,3,0,1,2,9] [7,6,3,4,8]] [] [4,8] [yB (List.map (aF 10) (List.map (aF 10) (bf S.fst))=bf (bB e c.nx dH (i+1)).fst) (by rw [dJ];rfl),yB (Bo S.snd=Bo (bB e c.nx dH (i+1)).snd) (by rw [dJ])]))
  rw [if_pos ⟨tb,cq⟩] at dJ
  have hl:=AD cq
  have SB:yi S.1 (eK i).name (300+u64 i) 4 (S.2 i)=bf (pc S.1 (eK i).name (300+u64 i) 4 (S.2 i)):=if_pos cq
  rw [SB,cq] at t_
  have VD:IntKind.i64.wrap (S.2 i+1)=S.2 i+1:=by rw [IntKind.wrap_i64];omega
  generalize pc S.1 (eK i).name (300+u64 i) 4 (S.2 i)=F at *
  refine a_<|zS<|zB 1<|zS<|zP 1 [yH [(2,yV (AV.val (Value.int .u64 (↑i:Int)))),(3,yV (ai (↑(dH/(2:Nat)^i):Int))),(4,yV (ai 1))]] [.aa [23,15,8,7,6,4,3,0,1,2,9] [7,6,3,4,8]] [yI (yd NG),yI (yc Gp),yO ((0:Int)≤(↑i:Int)),yI (yc Qd)]<|bk 23 ((1:Int) == (0:Int)) bD<|a_<|zS<|Ax 16 [14,15] [(2,yC oT),(5,yV (aw (u64 (↑i:Int)))),(6,yV (aw (300+u64 (↑i:Int)))),(8,{k:=i}),(9,yV (ai (S.snd i))),(10,yD t_)] ([yI oT,yI (a7 ((↑i:Int))),yR (aw (300+u64 (↑i:Int))),yR (↑i:Int),yI dI,yI ME,yI t_,yR (AV.agg (bf S.fst)),yR (ai ↑i),yR (AV.agg (aT (eK i))),yI oT,yR (cV (eK i).name),yR (ai ↑i),yR (aw (u64 (↑i:Int))),yI (a7 ((↑i:Int)))]++yM 2 (yR (aw (300+u64 (↑i:Int))))++ [yR (ai ↑i),yR (AV.addr 8 i),yR (↑i:Int),yI dI,yR (ai (S.snd i)),yI ME,yR (AV.cw [AV.agg (bf F),ai 0]),yI t_,yR (AV.cw [AV.agg (bf F),ai 0]),yR (AV.agg (bf F)),yR (ai 0),yL 17 17,yR (ai 0)])<|al<|bg.rz [.aa [11,32,10,23,15,8,7,6,4,3,0,1,2,9] [10,7,6,3,4,8]] bu<|zq<|dB 39 ((0:Int) == (0:Int)) eJ<|zP 1 [{}] [.aa [39,11,32,10,23,15,8,7,6,4,3,0,1,2,9] [4,10,7,6,3,8]] [yL 17 17]<|zX (yH [(1,{k:=i}),(2,yV (ai (S.snd i))),(3,yV (ai (S.snd i+1))),(4,{k:=i}),(5,yV (AV.arr (Bo (HF S.snd i (S.snd i+1)))))]) [yR (↑i:Int),yI dI,yI ME,yN (S.snd i+1),yR (↑i:Int),yI dI,yI VI,yB (i+1≤10) (by assumption)]<|aJ<|al<|zX (yH [(1,yV (ai ((↑i:Int)+1)))]) [yN ((↑i:Int)+1)] (aH (i+1) (by assumption) ag (eS [.aa [8,7,6,4,3,0,1,2,9] [7,6,3,4,8]] [] [4,8] [yB (List.map (aF 10) (List.take 0 (List.map (aF 10) (bf S.fst))++(bf F)++List.drop 17 (List.map (aF 10) (bf S.fst)))=bf (bB e c.nx dH (i+1)).fst) (by rw [dJ];rfl),yB (Bo (HF S.snd i (S.snd i+1))=Bo (bB e c.nx dH (i+1)).snd) (by rw [dJ])]))
 ·have ei:i=10:=ag
  subst ei
  refine zE 0<|a6<|aM<|bm<|al<|zS<|Ax 3 [2] [(0,yV (AV.agg [ai ((bB e c.nx dH 10).fst.aC),aw ((bB e c.nx dH 10).fst.prev),ai ((bB e c.nx dH 10).fst.kind),cV (bB e c.nx dH 10).fst.name,ai ((bB e c.nx dH 10).fst.kh),aw ((bB e c.nx dH 10).fst.kr),ai ((bB e c.nx dH 10).fst.bA),aw ((bB e c.nx dH 10).fst.dep.bV),aw ((bB e c.nx dH 10).fst.dep.peer),AV.sl 1 (aj (bB e c.nx dH 10).fst.dep.box),AV.sl 1 (af ay (bB e c.nx dH 10).fst.dep.ae),AV.sl 1 (ah (bB e c.nx dH 10).fst.dep.ax),ai ((bB e c.nx dH 10).fst.dep.need),aw ((bB e c.nx dH 10).fst.dep.target),aw ((bB e c.nx dH 10).fst.bV),aw ((bB e c.nx dH 10).fst.target),AV.sl 4 (af aL (bB e c.nx dH 10).fst.ak)])),(1,yV (AV.agg [ai ((bB e c.nx dH 10).snd 0),ai ((bB e c.nx dH 10).snd 1),ai ((bB e c.nx dH 10).snd 2),ai ((bB e c.nx dH 10).snd 3),ai ((bB e c.nx dH 10).snd 4),ai ((bB e c.nx dH 10).snd 5),ai ((bB e c.nx dH 10).snd 6),ai ((bB e c.nx dH 10).snd 7),ai ((bB e c.nx dH 10).snd 8),ai ((bB e c.nx dH 10).snd 9)]))] [yR (List.take 17 (List.drop 0 (bf (bB e c.nx dH 10).fst))),yR 17,yR (List.take 10 (List.drop 0 (Bo (bB e c.nx dH 10).snd))),yR 10,yL 17 17,yR (AV.agg [ai ((bB e c.nx dH 10).snd 0),ai ((bB e c.nx dH 10).snd 1),ai ((bB e c.nx dH 10).snd 2),ai ((bB e c.nx dH 10).snd 3),ai ((bB e c.nx dH 10).snd 4),ai ((bB e c.nx dH 10).snd 5),ai ((bB e c.nx dH 10).snd 6),ai ((bB e c.nx dH 10).snd 7),ai ((bB e c.nx dH 10).snd 8),ai ((bB e c.nx dH 10).snd 9)]),yR (List.take 10 (List.drop 0 (Bo (bB e c.nx dH 10).snd))),yR 10,yL 10 10]<|al<|bg.rz [.aa [15,8,7,6,4,3,0,1,2,9] [7,6,3,4,8]] bu<|zR (zV [yR 10,yR (Value.int .i64 (bB e c.nx dH 10).fst.aC),yR (Value.int .u64 (wv (bB e c.nx dH 10).fst.prev)),yR (Value.int .i64 (bB e c.nx dH 10).fst.kind),yR (Value.string (ByteArray.mk (bB e c.nx dH 10).fst.name.toArray)),yR (Value.int .i64 (bB e c.nx dH 10).fst.kh),yR (Value.int .u64 (wv (bB e c.nx dH 10).fst.kr)),yR (Value.int .i64 (bB e c.nx dH 10).fst.bA),yR (Value.int .u64 (wv (bB e c.nx dH 10).fst.dep.bV)),yR (Value.int .u64 (wv (bB e c.nx dH 10).fst.dep.peer)),yR (aj (bB e c.nx dH 10).fst.dep.box),yR (af ay (bB e c.nx dH 10).fst.dep.ae),yR (ah (bB e c.nx dH 10).fst.dep.ax),yR (Value.int .i64 (bB e c.nx dH 10).fst.dep.need),yR (Value.int .u64 (wv (bB e c.nx dH 10).fst.dep.target)),yR (Value.int .u64 (wv (bB e c.nx dH 10).fst.bV)),yR (Value.int .u64 (wv (bB e c.nx dH 10).fst.target)),yR (af aL (bB e c.nx dH 10).fst.ak),yR (Bo (bB e c.nx dH 10).snd)])
end Go.Proofs.YtjgbhhnghedgdaaGreatDoor
