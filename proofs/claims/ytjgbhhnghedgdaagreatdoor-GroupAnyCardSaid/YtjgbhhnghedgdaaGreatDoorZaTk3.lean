import Derived.Test.YtjgbhhnghedgdaaGreatDoorZaTk2
set_option linter.all false
namespace Go.Proofs.YtjgbhhnghedgdaaGreatDoor
open Go.RowKit
set_option maxRecDepth 100000
set_option maxHeartbeats 4000000
def dm (seed:UInt64) (leaf:Nat) (n:Nat):List UInt64:=(List.range n).map fun k=>fS seed k (leaf/2^k^^^1)
theorem tZ (seed:UInt64) (leaf k:Nat):dm seed leaf (k+1)=dm seed leaf k++ [fS seed k (leaf/2^k^^^1)]:=by simp [dm,List.range_succ]
theorem qV (seed:UInt64) (leaf k:Nat):(dm seed leaf k).length=k:=by simp [dm]
theorem zC (leaf k:Nat) (hk:k≤4):((leaf:Int)).fdiv (2^min (wv (u64 (k:Int))).toNat IntKind.i64.bits)=((leaf/2^k:Nat):Int):=by
 have e:(2:Int)^min (wv (u64 (k:Int))).toNat IntKind.i64.bits=((2^k:Nat):Int):=by
  rcases (ah:k=0∨k=1∨k=2∨k=3∨k=4) with rfl|rfl|rfl|rfl|rfl<;>decide +kernel
 rw [e,Int.fdiv_eq_ediv_of_nonneg _ (Int.natCast_nonneg _)];rfl
theorem DL (q:Nat) (hq:q<16):IntKind.i64.wrap ((BitVec.ofInt IntKind.i64.bits (q:Int)^^^BitVec.ofInt IntKind.i64.bits 1).toNat:Nat)=((q^^^1:Nat):Int):=by
 have key:∀q:Fin 16,IntKind.i64.wrap ((BitVec.ofInt IntKind.i64.bits ((q.val:Nat):Int)^^^BitVec.ofInt IntKind.i64.bits 1).toNat:Nat)=((q.val^^^1:Nat):Int):=by decide +kernel
 exact key ⟨q,hq⟩
theorem Ml (q:Nat) (hq:q<16):q^^^1<16:=by
 have key:∀q:Fin 16,q.val^^^1<16:=by decide +kernel
 exact key ⟨q,hq⟩
theorem B2 (seed:UInt64) (h leaf:Nat) (m:UInt64) (hh:h≤4) (hl:leaf<2^h):bK Tryz.prog 55 [aw seed,ai h,ai leaf,aw m] (.bq [.agg [ai leaf,.own 1 (aj (bU seed leaf m 18)),.own 1 (aj (dm seed leaf h))],ai 0]):=by
 have hb:¬bA (h:Int):=by unfold bA;omega
 have hp:2^h≤16:=Nat.pow_le_pow_right (by decide) hh
 have Cu:IntKind.i64.wrap (1*2^min (wv (u64 (h:Int))).toNat IntKind.i64.bits)=((2^h:Nat):Int):=by
  rcases (ah:h=0∨h=1∨h=2∨h=3∨h=4) with rfl|rfl|rfl|rfl|rfl<;>decide +kernel
 have J0:(0:Int)≤wv (u64 (h:Int)):=Int.natCast_nonneg _
 refine zO Tryz.func55 52<|zq<|zS<|zP 1 [yH ([(1,yV (ao (!decide (bA (↑h:Int))))),(6,{b:=false}),(10,{av:=some (aw (u64 (↑h:Int))),g:=false}),(11,{av:=some (ai (↑((2:Nat)^h):Int)),g:=false}),(13,{b:=false})]++yg [4,5,8,9,12])] [.ae [25,9,8,0,1,2,3] [8]] ([yI (b_ ((↑h:Int)))]++yM 3 (yS ((!!decide (bA (↑h:Int)))=false))++yM 3 (yR false)++ [yI (a6 ((↑h:Int))),yR false,yI (yc Cu),yI J0,yR false,yR false])<|dp 25 ((↑leaf:Int)≥(↑((2:Nat)^h):Int))<|a_<|zP 1 [yH [(4,yV (AV.own 1 (aj (bU seed (↑leaf:Int) m 18))))]] [.ae [10,25,9,8,0,1,2,3] [10,31,8]] [yI (xq seed ((↑leaf:Int)) m),yB (lj (aj (bU seed (↑leaf:Int) m 18))) (gm _),yL 3 3]<|zS<|zq<|zB 0<|bf.oR (bS.Lz 10 2 49 1 (r:=⟨1,false,true,[ai leaf,.ref 31,.nil]⟩) bh rfl rfl bh) (zL (fun (k:Nat)=>(⟨[(10,AV.addr 10 0),(25,ao (decide ((↑leaf:Int)≥(↑((2:Nat)^h):Int)))),(9,ai 0),(8,AV.addr 8 0),(0,aw seed),(1,ai ↑h),(2,ai ↑leaf),(3,aw m),(11,ai k)],[(8,⟨1,false,true,[ai 0,AV.nil,AV.nil]⟩),(31,⟨1,true,false,aj (bU seed (↑leaf:Int) m 18)⟩),(10,⟨1,false,true,[ai leaf,AV.ref 31,AV.ref 49]⟩),(49,⟨1,true,false,aj (dm seed leaf k)⟩)]⟩:AS)) (fun k=>(k≤h)) (fun k=>(h-k)) (0) ?_ (zW [.ae [10,25,9,8,0,1,2,3,11] [8,31,10,49]]) ?_)
 ·omega
 intro k hk
 refine zS<|bf.jW 1 [{}] [.ae [35,10,25,9,8,0,1,2,3,11] [8,31,10,49]] bh (s':=AS.mk [(35,ao (decide ((↑k:Int)<(↑h:Int)))),(10,AV.addr 10 0),(25,ao (decide ((↑leaf:Int)≥(↑((2:Nat)^h):Int)))),(9,ai 0),(8,AV.addr 8 0),(0,aw seed),(1,ai ↑h),(2,ai ↑leaf),(3,aw m),(11,ai ↑k)] [(8,Row.mk 1 false true [ai 0,AV.nil,AV.nil]),(31,Row.mk 1 true false (aj (bU seed (↑leaf:Int) m 18))),(10,Row.mk 1 false true [ai ↑leaf,AV.ref 31,AV.ref 49]),(49,Row.mk 1 true false (aj (dm seed leaf k)))]) (C:=[]) bh trivial (zD 35 ((↑k:Int)<(↑h:Int)) (fun g=>?_) (fun g=>?_))
 ·have AP:k≤4:=ah
  have hs:=zC leaf k AP
  have hle:leaf/2^k≤leaf:=Nat.div_le_self ..
  have hq:leaf/2^k<16:=ah
  have hx:=DL _ hq
  have dh:=Ml _ hq
  have ep:=tZ seed leaf k
  have MX:(0:Int)≤wv (u64 (k:Int)):=Int.natCast_nonneg _
  have hn:=rU seed k (leaf/2^k^^^1) AP (Nat.lt_of_lt_of_le dh (Nat.le_trans (by decide:16≤2^36) (Nat.pow_le_pow_right (by decide) ah)))
  generalize leaf/2^k^^^1=x at *
  generalize fS seed k x=r at *
  generalize leaf/2^k=q at *
  refine a_<|zS<|zB 1<|zX ({hs:=[(6,yV (aw (u64 (↑k:Int)))),(7,yV (ai ↑q)),(8,yV (ai ↑x)),(9,yV (aw r)),(10,yV (AV.arr (aj [r]))),(11,yV (AV.arr (aj (dm seed leaf k++ [r]))))],T:=11}) [yI (a6 ((↑k:Int))),yI (yc hs),yI MX,yI (yc hx),yI hn,yR [aw r],yB (aj (dm seed leaf k)++aj [r]=aj (dm seed leaf k++ [r])) (je _ _),yB (((aj (dm seed leaf k)).length+1)*8≤140737488355328) (by simp only [aA,qV];omega),yL 3 3]<|aM<|ak<|zX (yH [(1,yV (ai ((↑k:Int)+1)))]) [yN ((↑k:Int)+1)] (aJ (k+1) ah ah (eK [.ae [10,25,9,8,0,1,2,3,11] [8,31,10,49]] [] [49] [yB (aj (dm seed leaf k++ [r])=aj (dm seed leaf (k+1))) (congrArg aj ep.symm)]))
 ·have e:k=h:=ah
  subst e
  refine zE 0<|a7<|aO<|bn<|ak<|zP 1 [{}] [.ae [9,35,10,25,8,0,1,2,3,11] [8,31,10,49]] [yL 3 3]<|zR (bV)
def i6 (h leaf:Int):Prop:=bA h∨leaf<0∨((2^h.toNat:Nat):Int)≤leaf
instance (h leaf:Int):Decidable (i6 h leaf):=by unfold i6;infer_instance
def wj (h leaf:Int):Int:=if i6 h leaf then 9 else 0
def oV (h leaf:Int):Int:=if i6 h leaf then 0 else leaf
def oy (seed:UInt64) (h leaf:Int) (m:UInt64):List UInt64:=if i6 h leaf then [] else bU seed leaf m 18
def ox (seed:UInt64) (h leaf:Int):List UInt64:=if i6 h leaf then [] else dm seed leaf.toNat h.toNat
theorem rT (seed:UInt64) (h leaf:Int) (m:UInt64):bK Tryz.prog 55 [aw seed,ai h,ai leaf,aw m] (.bq [.agg [ai (oV h leaf),.own 1 (aj (oy seed h leaf m)),.own 1 (aj (ox seed h leaf))],ai (wj h leaf)]):=by
 by_cases eX:i6 h leaf
 ·have e1:wj h leaf=9:=if_pos eX
  have e2:oV h leaf=0:=if_pos eX
  have e3:oy seed h leaf m= []:=if_pos eX
  have e4:ox seed h leaf= []:=if_pos eX
  rw [e1,e2,e3,e4]
  unfold i6 at eX
  by_cases hb:bA h
  ·refine zO Tryz.func55 52<|zq<|zS<|zP 1 [yH [(1,yV (ao (!decide (bA h))))]] [.ae [25,9,8,0,1,2,3] [8]] ([yI (b_ h)]++yM 3 (yS ((!!decide (bA h))=true))++yM 6 (yR true))<|zT 25<|zP 1 [{}] [.ae [9,25,8,0,1,2,3] [8]] [yL 3 3]<|dk (bV)
  have rj:0≤h∧h≤4:=by unfold bA at hb;omega
  obtain ⟨k,rfl⟩:=Int.eq_ofNat_of_zero_le rj.1
  rw [Int.toNat_natCast] at eX
  by_cases dh:leaf<0
  ·refine zO Tryz.func55 52<|zq<|zS<|zP 1 [yH ([(1,yV (ao (!decide (bA (↑k:Int))))),(6,{b:=false})]++yg [4,5])] [.ae [25,9,8,0,1,2,3] [8]] ([yI (b_ ((↑k:Int)))]++yM 3 (yS ((!!decide (bA (↑k:Int)))=false))++yM 6 (yT (leaf<0)))<|zT 25<|zP 1 [{}] [.ae [9,25,8,0,1,2,3] [8]] [yL 3 3]<|dk (bV)
  have uG:((2^k:Nat):Int)≤leaf:=by rcases eX with h|h|h<;>first|exact absurd h hb|exact absurd h dh|exact h
  have hp:2^k≤16:=Nat.pow_le_pow_right (by decide) (by omega:k≤4)
  have Cu:IntKind.i64.wrap (1*2^min (wv (u64 (k:Int))).toNat IntKind.i64.bits)=((2^k:Nat):Int):=by
   rcases (ah:k=0∨k=1∨k=2∨k=3∨k=4) with rfl|rfl|rfl|rfl|rfl<;>decide +kernel
  have J0:(0:Int)≤wv (u64 (k:Int)):=Int.natCast_nonneg _
  generalize 2^k=p2 at *
  refine zO Tryz.func55 52<|zq<|zS<|zP 1 [yH ([(1,yV (ao (!decide (bA (↑k:Int))))),(6,{b:=false}),(10,{av:=some (aw (u64 (↑k:Int))),g:=false}),(11,{av:=some (ai ↑p2),g:=false}),(13,{b:=false})]++yg [4,5,8,9,12])] [.ae [25,9,8,0,1,2,3] [8]] ([yI (b_ ((↑k:Int)))]++yM 3 (yS ((!!decide (bA (↑k:Int)))=false))++yM 3 (yF (leaf<0))++ [yI (a6 ((↑k:Int))),yF (leaf<0),yI (yc Cu),yI J0]++yM 2 (yF (leaf<0)))<|gT 25 (leaf≥(↑p2:Int))<|zP 1 [{}] [.ae [9,25,8,0,1,2,3] [8]] [yL 3 3]<|dk (bV)
 ·have e1:wj h leaf=0:=if_neg eX
  have e2:oV h leaf=leaf:=if_neg eX
  have e3:oy seed h leaf m=bU seed leaf m 18:=if_neg eX
  have e4:ox seed h leaf=dm seed leaf.toNat h.toNat:=if_neg eX
  rw [e1,e2,e3,e4]
  unfold i6 bA at eX
  have rj:0≤h∧h≤4∧0≤leaf:=ah
  obtain ⟨k,rfl⟩:=Int.eq_ofNat_of_zero_le rj.1
  obtain ⟨i,rfl⟩:=Int.eq_ofNat_of_zero_le rj.2.2
  rw [Int.toNat_natCast,Int.toNat_natCast]
  rw [Int.toNat_natCast] at eX
  exact B2 seed k i m ah ah
theorem G9 (seed:UInt64) (h leaf:Int) (m:UInt64) (eX:i6 h leaf):bK Tryz.prog 51 [aw seed,ai h,ai leaf,aw m] (.bq [.agg [ai 0,.sl 1 (aj []),.own 1 (aj [])],ai 9]):=by
 unfold i6 at eX
 by_cases hb:bA h
 ·refine zO Tryz.func51 48<|zq<|zS<|zP 1 [yH [(1,yV (ao (decide (bA h))))]] [.ae [19,9,8,6,5,0,1,2,3] [8,6,5]] ([yI (hU h)]++yM 4 (yT (bA h)))<|zT 19<|zP 1 [{}] [.ae [9,19,8,6,5,0,1,2,3] [8,6,5]] [yL 3 3]<|dk (bV)
 have rj:0≤h∧h≤4:=by unfold bA at hb;omega
 obtain ⟨k,rfl⟩:=Int.eq_ofNat_of_zero_le rj.1
 rw [Int.toNat_natCast] at eX
 have ho:leaf<0∨((2^k:Nat):Int)≤leaf:=eX.resolve_left hb
 have hk:k≤4:=ah
 refine zO Tryz.func51 48<|zq<|zS<|zP 1 [yH ([(1,yV (ao (decide (bA (↑k:Int))))),(5,{av:=some (ao (decide (leaf<0∨(↑((2:Nat)^k):Int)≤leaf))),g:=false}),(6,{b:=false})]++yg [3,4])] [.ae [19,9,8,6,5,0,1,2,3] [8,6,5]] ([yI (hU ((↑k:Int)))]++yM 3 (yF (bA (↑k:Int)))++ [yI (iA leaf k hk),yF (bA (↑k:Int))])<|gT 19 (leaf<0∨(↑((2:Nat)^k):Int)≤leaf)<|zP 1 [{}] [.ae [9,19,8,6,5,0,1,2,3] [8,6,5]] [yL 3 3]<|dk (bV)
def qN (seed:UInt64) (h leaf:Nat) (x:AV) (i:Nat):List (Nat×Row) :=
 [(1000000000005,⟨1,false,true,[ai (h:Int)]⟩),(1000000000006,⟨1,false,true,[ai (leaf:Int)]⟩),(1000000000008,⟨1,false,true,[ai 0,.nil,.nil]⟩),(1000000000010,⟨1,false,true,[ai (leaf:Int),x,.ref 49]⟩),(49,⟨1,true,false,aj (dm seed leaf (min i h))⟩)]
def zz (seed:UInt64) (h:Nat) (m:UInt64):List (Nat×AV) :=
 [(29,.lI 142 [.ptr [ai (h:Int)] 0,.ptr [aw seed] 0]),(10,.addr 1000000000010 0),(9,ai 0),(8,.addr 1000000000008 0),(6,.addr 1000000000006 0),(5,.addr 1000000000005 0),(0,aw seed),(3,aw m)]
theorem zy (seed:UInt64) (h leaf:Nat) (m:UInt64) (L:List AV) (i:Nat) (v:Value):DJ [(v,.sl 1 L)] ⟨zz seed h m,qN seed h leaf (.val v) i⟩ ⟨zz seed h m,qN seed h leaf (.sl 1 L) i⟩:=by
 intro Z w0 n a w φ hs hr
 have h1:=hs.close_ 1000000000010 1 (r:=⟨1,false,true,[ai (leaf:Int),.val v,.ref 49]⟩) (x:=.sl 1 L) (v:=v) rfl rfl rfl (hr (v,.sl 1 L) (by simp))
 refine h1.congr fun i'=>?_
 show look (qN seed h leaf (.sl 1 L) i) i'=look ((1000000000010,⟨1,false,true,[ai (leaf:Int),.sl 1 L,.ref 49]⟩):: [(1000000000005,⟨1,false,true,[ai (h:Int)]⟩),(1000000000006,⟨1,false,true,[ai (leaf:Int)]⟩),(1000000000008,⟨1,false,true,[ai 0,.nil,.nil]⟩),(49,⟨1,true,false,aj (dm seed leaf (min i h))⟩)]) i'
 unfold qN
 simp only [aE]
 by_cases e:1000000000010=i'
 ·subst e;rfl
 ·simp only [e,if_false]
theorem Ha (seed:UInt64) (h leaf:Nat) (m:UInt64) (L:List AV) (Z:bm) (w0:World) (n:Nat) (a:Act) (w:World) (φ:Nat->Option Nat) (hs:aL Z w0 n [] (AS.mk (zz seed h m) [(1000000000005,⟨1,false,true,[ai (h:Int)]⟩),(1000000000006,⟨1,false,true,[ai (leaf:Int)]⟩),(1000000000008,⟨1,false,true,[ai 0,.nil,.nil]⟩),(1000000000010,⟨1,false,true,[ai (leaf:Int),.sl 1 L,.nil]⟩)]) a w φ) :
  ∃(j6:Nat->Option Nat) (vs:List Value),vs.length= [AV.sl 1 L].length∧aL Z w0 n [] ⟨zz seed h m,qN seed h leaf (.val (vs.headD default)) 0⟩ a w j6∧ ∀p∈vs.zip [AV.sl 1 L],cz (aN Z w j6 []) w p.1 p.2:=by
 obtain ⟨j6,h2⟩:=(bS.Lz 1000000000010 2 49 1 (r:=⟨1,false,true,[ai (leaf:Int),.sl 1 L,.nil]⟩) rfl rfl rfl rfl) Z w0 n a w ⟨φ,hs⟩
 obtain ⟨v,h3,hr⟩:=h2.open_ 1000000000010 1 (r:=⟨1,false,true,[ai (leaf:Int),.sl 1 L,.ref 49]⟩) (x:=.sl 1 L) rfl rfl rfl rfl
 refine ⟨j6,[v],rfl,h3.congr fun i'=>?_,fun p hp=>?_⟩
 ·show look (qN seed h leaf (.val v) 0) i'=look [(1000000000010,⟨1,false,true,[ai (leaf:Int),.val v,.ref 49]⟩),(49,⟨1,true,false,[]⟩),(1000000000005,⟨1,false,true,[ai (h:Int)]⟩),(1000000000006,⟨1,false,true,[ai (leaf:Int)]⟩),(1000000000008,⟨1,false,true,[ai 0,.nil,.nil]⟩)] i'
  have e0:aj (dm seed leaf (min 0 h))= []:=by simp [dm,aj]
  unfold qN
  rw [e0]
  simp only [aE]
  by_cases e:1000000000010=i'
  ·subst e;rfl
  ·simp only [e,if_false]
   by_cases e:49=i'
   ·subst e;rfl
   ·simp only [e,if_false]
 ·obtain rfl:p=(v,.sl 1 L):=by simpa using hp
  exact hr
theorem wi (leaf k:Nat) (hk:k≤4):((leaf:Int)).fdiv (2^min ((k:Int)).toNat IntKind.i64.bits)=((leaf/2^k:Nat):Int):=by
 have e:(2:Int)^min ((k:Int)).toNat IntKind.i64.bits=((2^k:Nat):Int):=by
  rcases (ah:k=0∨k=1∨k=2∨k=3∨k=4) with rfl|rfl|rfl|rfl|rfl<;>decide +kernel
 rw [e,Int.fdiv_eq_ediv_of_nonneg _ (Int.natCast_nonneg _)];rfl
theorem GK (q m:Nat) (hm:m≤8) (hq:q<2*m):q^^^1<2*m:=by
 have key:∀m:Fin 9,∀q:Fin 16,q.val<2*m.val->q.val^^^1<2*m.val:=by decide +kernel
 exact key ⟨m,ah⟩ ⟨q,ah⟩ hq
theorem Kj (seed:UInt64) (h leaf:Nat) (m:UInt64) (hh:h≤4) (hl:leaf<2^h):bK Tryz.prog 51 [aw seed,ai h,ai leaf,aw m] (.bq [.agg [ai leaf,.sl 1 (aj (bU seed leaf m 18)),.own 1 (aj (dm seed leaf h))],ai 0]):=by
 have hb:¬bA (h:Int):=by unfold bA;omega
 have hp:2^h≤16:=Nat.pow_le_pow_right (by decide) hh
 have ho:¬((leaf:Int)<0∨((2^h:Nat):Int)≤leaf):=ah
 refine zO Tryz.func51 48<|zq<|zS<|zP 1 [yH ([(1,yV (ao (decide (bA (↑h:Int))))),(5,{av:=some (ao (decide ((↑leaf:Int)<0∨(↑((2:Nat)^h):Int)≤(↑leaf:Int)))),g:=false}),(6,{b:=false})]++yg [3,4])] [.ae [19,9,8,6,5,0,1,2,3] [8,6,5]] ([yI (hU ((↑h:Int)))]++yM 3 (yF (bA (↑h:Int)))++ [yI (iA ((↑leaf:Int)) h hh),yF (bA (↑h:Int))])<|dp 19 ((↑leaf:Int)<0∨(↑((2:Nat)^h):Int)≤(↑leaf:Int))<|a_<|zS<|y9 7 [6] [(4,yV (AV.own 1 (aj (bU seed (↑leaf:Int) m 18))))] [yI (wh seed ((↑leaf:Int)) m),yB (lj (aj (bU seed (↑leaf:Int) m 18))) (gm _),yR (ai ↑leaf),yR (aw seed),yR (ai ↑leaf),yR (aw m),yR (AV.sl 1 (aj (bU seed (↑leaf:Int) m 18))),yI (wh seed ((↑leaf:Int)) m),yB (lj (aj (bU seed (↑leaf:Int) m 18))) (gm _),yR (AV.agg [ai ↑leaf,AV.sl 1 (aj (bU seed (↑leaf:Int) m 18)),AV.nil]),yL 3 3]<|ak<|bf.sv [.ae [10,19,9,8,6,5,0,1,2,3] [10,8,6,5]] bh<|zS<|zP 1 [yH [(2,{av:=some (AV.lI 142 [AV.ptr [ai ↑h] 0,AV.ptr [aw seed] 0]),b:=false})]] [.ae [29,10,19,9,8,6,5,0,1,2,3] [10,8,6,5]] [yI (Cn seed ((↑h:Int)))]<|zB 0 ?_
 refine bf.ML bh _ _ (Az seed h hh) bh bh bh [(5,1000000000005),(6,1000000000006),(8,1000000000008),(10,1000000000010)] bh [.sl 1 (aj (bU seed leaf m 18))]
  (zz seed h m) (fun vs i=>qN seed h leaf (.val (vs.headD default)) i) ⟨zz seed h m,qN seed h leaf (.sl 1 (aj (bU seed leaf m 18))) (h+1)⟩
  (fun Z w0 a w φ hs=>?_) (fun vs _=>by kernel_rfl) (fun _=>by kernel_rfl) bh (fun vs i _ _=>⟨er (iE rfl) (er (iE rfl) (er (iE rfl) (er (iE rfl) (er (qs _) vg)))),by kernel_rfl⟩) (fun vs i hv hi=>?_) (fun vs hv=>?_) ?_
 ·obtain ⟨iH,h1⟩:=(zW [.ae [29,10,9,8,6,5,0,3] [1000000000005,1000000000006,1000000000008,1000000000010]]) Z w0 48 a w ⟨φ,hs⟩
  exact Ha seed h leaf m _ Z w0 48 a w iH h1
 ·obtain ⟨v,rfl⟩:=List.length_eq_one_iff.1 hv
  refine bf.Q2 (AS.mk ([(31,.sl 1 (aj (kK seed h i))),(30,ai (i:Int))]++zz seed h m) [(1000000000005,⟨1,false,true,[ai (h:Int)]⟩),(1000000000006,⟨1,false,true,[ai (leaf:Int)]⟩),(1000000000008,⟨1,false,true,[ai 0,.nil,.nil]⟩),(1000000000010,⟨1,false,true,[ai (leaf:Int),.val v,.ref 49]⟩),(49,⟨1,true,false,aj (dm seed leaf (min i h))⟩)]) bh ?_
  rw [show min i h=i by omega]
  refine bf.Q2 (AS.mk [(31,.sl 1 (aj (kK seed h i))),(30,ai (i:Int)),(29,.lI 142 [.ptr [ai (h:Int)] 0,.ptr [aw seed] 0]),(10,.addr 1000000000010 0),(9,ai 0),(8,.addr 1000000000008 0),(6,.addr 1000000000006 0),(5,.addr 1000000000005 0),(0,aw seed),(3,aw m)] [(1000000000005,⟨1,false,true,[ai (h:Int)]⟩),(1000000000006,⟨1,false,true,[ai (leaf:Int)]⟩),(1000000000008,⟨1,false,true,[ai 0,.nil,.nil]⟩),(1000000000010,⟨1,false,true,[ai (leaf:Int),.val v,.ref 49]⟩),(49,⟨1,true,false,aj (dm seed leaf i)⟩)]) bh<|zq<|zX {} []<|ak<|zB 1<|zS<|zP 1 [{}] [.ae [34,12,11,31,30,29,10,9,8,6,5,0,3] [1000000000005,1000000000006,1000000000008,1000000000010,49]] [] (bf.Jy (x:=.tmp 34) (u:=(↑i:Int)) (v:=(↑h:Int)) bh bh (fun g=>?_) (fun g=>?_))
  ·have e:i=h:=ah
   subst e
   refine zE 0<|a7<|Pc bh ?_
   refine ⟨qN seed i leaf (.val v) (i+1),⟨zz seed i m,qN seed i leaf (.sl 1 (aj (bU seed leaf m 18))) (i+1)⟩,er (iE rfl) (er (iE rfl) (er (iE rfl) (er (iE rfl) (er (qs _) vg)))),by kernel_rfl,
    bS.of [.ae [] [1000000000005,1000000000006,1000000000008,1000000000010,49]] (s1:=AS.mk [] [(1000000000005,⟨1,false,true,[ai (i:Int)]⟩),(1000000000006,⟨1,false,true,[ai (leaf:Int)]⟩),(1000000000008,⟨1,false,true,[ai 0,.nil,.nil]⟩),(1000000000010,⟨1,false,true,[ai (leaf:Int),.val v,.ref 49]⟩),(49,⟨1,true,false,aj (dm seed leaf i)⟩)]) bh (by unfold qN;rw [show min (i+1) i=i by omega]),zy seed i leaf m _ (i+1) v,bn (ak ?_)⟩
   refine bf.Q2 (AS.mk [(29,.lI 142 [.ptr [ai (i:Int)] 0,.ptr [aw seed] 0]),(10,.addr 10 0),(9,ai 0),(8,.addr 8 0),(6,.addr 6 0),(5,.addr 5 0),(0,aw seed),(3,aw m)] [(5,⟨1,false,true,[ai (i:Int)]⟩),(6,⟨1,false,true,[ai (leaf:Int)]⟩),(8,⟨1,false,true,[ai 0,.nil,.nil]⟩),(10,⟨1,false,true,[ai (leaf:Int),.sl 1 (aj (bU seed leaf m 18)),.ref 49]⟩),(49,⟨1,true,false,aj (dm seed leaf (min (i+1) i))⟩)]) bh ?_
   rw [show min (i+1) i=i by omega]
   refine bf.jW 1 [{}] [.ae [9,29,10,8,6,5,0,3] [8,5,6,10,49]] bh (s':=AS.mk [(9,ai 0),(29,AV.lI 142 [AV.ptr [ai ↑i] 0,AV.ptr [aw seed] 0]),(10,AV.addr 10 0),(8,AV.addr 8 0),(6,AV.addr 6 0),(5,AV.addr 5 0),(0,aw seed),(3,aw m)] [(8,Row.mk 1 false true [ai ↑leaf,AV.sl 1 (aj (bU seed (↑leaf:Int) m 18)),AV.ref 49]),(5,Row.mk 1 false true [ai ↑i]),(6,Row.mk 1 false true [ai ↑leaf]),(10,Row.mk 1 false true [ai ↑leaf,AV.sl 1 (aj (bU seed (↑leaf:Int) m 18)),AV.ref 49]),(49,Row.mk 1 true false (aj (dm seed leaf i)))]) (C:=[3≤3]) bh ⟨ah,trivial⟩<|zR (bV)
  ·have AP:i≤4:=ah
   have hs:=wi leaf i AP
   have hle:leaf/2^i≤leaf:=Nat.div_le_self ..
   have hq:leaf/2^i<16:=ah
   have hx:=DL _ hq
   have em:2^(h-i)=2*2^(h-(i+1)):=by rw [show h-i=h-(i+1)+1 by omega,Nat.pow_succ,Nat.mul_comm]
   have UM:2^(h-(i+1))≤8:=Nat.le_trans (Nat.pow_le_pow_right (by decide) (by omega:h-(i+1)≤3)) (by decide)
   have hdiv:leaf/2^i<2^(h-i):=by
    rw [Nat.div_lt_iff_lt_mul (Nat.two_pow_pos _),←Nat.pow_add,show h-i+i=h by omega];exact hl
   have Er:leaf/2^i^^^1<2^(h-i):=by rw [em];exact GK _ _ UM ah
   have gh:=p8 seed h i _ Er
   have s6:=p7 seed h i
   have ep:=tZ seed leaf i
   have oP:=qV seed leaf i
   have Cw:min (i+1) h=i+1:=ah
   generalize leaf/2^i^^^1=x at *
   generalize leaf/2^i=q at *
   generalize kK seed h i=L at *
   generalize 2^(h-i)=c at *
   refine a_<|zX ({hs:=[(5,yV (ai ↑q)),(6,yV (ai ↑x)),(7,{k:=x}),(8,yV (aw (L.getD x 0))),(9,yV (AV.arr (aj [L.getD x 0]))),(10,yV (AV.arr (aj (dm seed leaf i++ [L.getD x 0]))))],T:=10}) [yI (yc hs),yO ((0:Int)≤(↑i:Int)),yI (yc hx),yR (↑x:Int),yB (x<(aj L).length) (by simp only [aA];omega),yB ((aj L)[x]?=some (aw (L.getD x 0))) (dI ah),yR [aw (L.getD x 0)],yB (aj (dm seed leaf i)++aj [L.getD x 0]=aj (dm seed leaf i++ [L.getD x 0])) (je _ _),yB (((aj (dm seed leaf i)).length+1)*8≤140737488355328) (by simp only [aA];omega),yL 3 3]<|aM ?_
   exact bS.of [.vo 45 49,.ae [] [1000000000005,1000000000006,1000000000008,1000000000010,49]] (s1:=AS.mk [] [(1000000000005,⟨1,false,true,[ai (h:Int)]⟩),(1000000000006,⟨1,false,true,[ai (leaf:Int)]⟩),(1000000000008,⟨1,false,true,[ai 0,.nil,.nil]⟩),(1000000000010,⟨1,false,true,[ai (leaf:Int),.val v,.ref 49]⟩),(49,⟨1,true,false,aj (dm seed leaf i++ [L.getD x 0])⟩)]) bh (by unfold qN;rw [Cw,ep,gh];rfl)
 ·obtain ⟨v,rfl⟩:=List.length_eq_one_iff.1 hv
  exact zy seed h leaf m _ (h+1) v
 ·refine aM (ak ?_)
  refine bf.Q2 (AS.mk [(29,.lI 142 [.ptr [ai (h:Int)] 0,.ptr [aw seed] 0]),(10,.addr 10 0),(9,ai 0),(8,.addr 8 0),(6,.addr 6 0),(5,.addr 5 0),(0,aw seed),(3,aw m)] [(5,⟨1,false,true,[ai (h:Int)]⟩),(6,⟨1,false,true,[ai (leaf:Int)]⟩),(8,⟨1,false,true,[ai 0,.nil,.nil]⟩),(10,⟨1,false,true,[ai (leaf:Int),.sl 1 (aj (bU seed leaf m 18)),.ref 49]⟩),(49,⟨1,true,false,aj (dm seed leaf (min (h+1) h))⟩)]) bh ?_
  rw [show min (h+1) h=h by omega]
  refine zP 1 [{}] [.ae [9,29,10,8,6,5,0,3] [8,5,6,10,49]] [yL 3 3]<|zR (bV)
theorem G8 (seed:UInt64) (h leaf:Int) (m:UInt64):bK Tryz.prog 51 [aw seed,ai h,ai leaf,aw m] (.bq [.agg [ai (oV h leaf),.sl 1 (aj (oy seed h leaf m)),.own 1 (aj (ox seed h leaf))],ai (wj h leaf)]):=by
 by_cases eX:i6 h leaf
 ·have e1:wj h leaf=9:=if_pos eX
  have e2:oV h leaf=0:=if_pos eX
  have e3:oy seed h leaf m= []:=if_pos eX
  have e4:ox seed h leaf= []:=if_pos eX
  rw [e1,e2,e3,e4]
  exact G9 seed h leaf m eX
 ·have e1:wj h leaf=0:=if_neg eX
  have e2:oV h leaf=leaf:=if_neg eX
  have e3:oy seed h leaf m=bU seed leaf m 18:=if_neg eX
  have e4:ox seed h leaf=dm seed leaf.toNat h.toNat:=if_neg eX
  rw [e1,e2,e3,e4]
  unfold i6 bA at eX
  have rj:0≤h∧h≤4∧0≤leaf:=ah
  obtain ⟨k,rfl⟩:=Int.eq_ofNat_of_zero_le rj.1
  obtain ⟨i,rfl⟩:=Int.eq_ofNat_of_zero_le rj.2.2
  rw [Int.toNat_natCast,Int.toNat_natCast]
  rw [Int.toNat_natCast] at eX
  exact Kj seed k i m ah ah
def dv (leaf:Nat) (P:List UInt64) (x:UInt64):Nat->UInt64
 | 0=>x
 | k+1=>if leaf/2^k%2=0 then gP ((k+1:Nat):Int) (dv leaf P x k) (P.getD k 0) else gP ((k+1:Nat):Int) (P.getD k 0) (dv leaf P x k)
def ku (h:Int) (r m:UInt64) (leaf:Int) (C P:List UInt64):Int :=
 if i6 h leaf then 9 else if C.length≠18∨(P.length:Int)≠h then 4 else if dv leaf.toNat P (combine leaf (cM leaf m C 18)) h.toNat=r then 0 else 15
theorem EV (q:Nat) (hq:q<16):IntKind.i64.wrap ((BitVec.ofInt IntKind.i64.bits (q:Int)&&&BitVec.ofInt IntKind.i64.bits 1).toNat:Nat)=((q%2:Nat):Int):=by
 have key:∀q:Fin 16,IntKind.i64.wrap ((BitVec.ofInt IntKind.i64.bits ((q.val:Nat):Int)&&&BitVec.ofInt IntKind.i64.bits 1).toNat:Nat)=((q.val%2:Nat):Int):=by decide +kernel
 exact key ⟨q,hq⟩
theorem BK (h:Int) (r m:UInt64) (leaf:Int) (C P:List UInt64):bK Tryz.prog 104 [.agg [ai h,aw r],aw m,.agg [ai leaf,.sl 1 (aj C),.sl 1 (aj P)]] (ai (ku h r m leaf C P)):=by
 by_cases eX:i6 h leaf
 ·have e1:ku h r m leaf C P=9:=if_pos eX
  rw [e1]
  unfold i6 at eX
  by_cases hb:bA h
  ·refine zO Tryz.func104 74<|zq<|zS<|zP 1 [yH [(2,yV (ao (decide (bA h))))]] [.ae [20,6,5,3,0,1,2] [5,3]] ([yI (hU h)]++yM 6 (yT (bA h)))<|zT 20<|zq<|dk (bV)
  have rj:0≤h∧h≤4:=by unfold bA at hb;omega
  obtain ⟨k,rfl⟩:=Int.eq_ofNat_of_zero_le rj.1
  rw [Int.toNat_natCast] at eX
  have ho:leaf<0∨((2^k:Nat):Int)≤leaf:=eX.resolve_left hb
  have hk:k≤4:=ah
  refine zO Tryz.func104 74<|zq<|zS<|zP 1 [yH ([(2,yV (ao (decide (bA (↑k:Int))))),(8,{av:=some (ao (decide (leaf<0∨(↑((2:Nat)^k):Int)≤leaf))),g:=false}),(9,{b:=false})]++yg [4,5,6,7])] [.ae [20,6,5,3,0,1,2] [5,3]] ([yI (hU ((↑k:Int)))]++yM 5 (yF (bA (↑k:Int)))++ [yI (iA leaf k hk),yF (bA (↑k:Int))])<|gT 20 (leaf<0∨(↑((2:Nat)^k):Int)≤leaf)<|zq<|dk (bV)
 have hv:ku h r m leaf C P=if C.length≠18∨(P.length:Int)≠h then 4 else if dv leaf.toNat P (combine leaf (cM leaf m C 18)) h.toNat=r then 0 else 15:=if_neg eX
 unfold i6 bA at eX
 have rj:0≤h∧h≤4∧0≤leaf:=ah
 obtain ⟨k,rfl⟩:=Int.eq_ofNat_of_zero_le rj.1
 obtain ⟨i,rfl⟩:=Int.eq_ofNat_of_zero_le rj.2.2
 rw [Int.toNat_natCast] at eX
 rw [Int.toNat_natCast,Int.toNat_natCast] at hv
 have hk:k≤4:=ah
 have hb:¬bA (k:Int):=by unfold bA;omega
 have ho:¬((i:Int)<0∨((2^k:Nat):Int)≤i):=ah
 have hp:2^k≤16:=Nat.pow_le_pow_right (by decide) hk
 rw [hv]
 by_cases hC:C.length=18
 case neg =>
  rw [if_pos (.inl hC)]
  refine zO Tryz.func104 74<|zq<|zS<|zP 1 [yH ([(2,yV (ao (decide (bA (↑k:Int))))),(8,{av:=some (ao (decide ((↑i:Int)<0∨(↑((2:Nat)^k):Int)≤(↑i:Int)))),g:=false}),(9,{b:=false})]++yg [4,5,6,7])] [.ae [20,6,5,3,0,1,2] [5,3]] ([yI (hU ((↑k:Int)))]++yM 5 (yF (bA (↑k:Int)))++ [yI (iA ((↑i:Int)) k hk),yF (bA (↑k:Int))])<|dp 20 ((↑i:Int)<0∨(↑((2:Nat)^k):Int)≤(↑i:Int))<|a_<|zS<|zP 1 [yH [(2,{k:=C.length})]] [.ae [32,20,6,5,3,0,1,2] [5,3]] ([yI (aA C)]++yM 7 (yB (((↑C.length:Int) != (18:Int))=true) (by simp;omega)))<|zT 32<|zq<|dk (bV)
 by_cases hP:P.length=k
 case neg =>
  rw [if_pos (.inr ah)]
  refine zO Tryz.func104 74<|zq<|zS<|zP 1 [yH ([(2,yV (ao (decide (bA (↑k:Int))))),(8,{av:=some (ao (decide ((↑i:Int)<0∨(↑((2:Nat)^k):Int)≤(↑i:Int)))),g:=false}),(9,{b:=false})]++yg [4,5,6,7])] [.ae [20,6,5,3,0,1,2] [5,3]] ([yI (hU ((↑k:Int)))]++yM 5 (yF (bA (↑k:Int)))++ [yI (iA ((↑i:Int)) k hk),yF (bA (↑k:Int))])<|dp 20 ((↑i:Int)<0∨(↑((2:Nat)^k):Int)≤(↑i:Int))<|a_<|zS<|zP 1 [yH ([(2,{k:=C.length}),(7,{k:=P.length,g:=false}),(11,{b:=false})]++yg [5,6,8,9,10])] [.ae [32,20,6,5,3,0,1,2] [5,3]] ([yI (aA C)]++yM 3 (yS (((↑C.length:Int) != (18:Int))=false))++ [yI (aA P)]++yM 4 (yS (((↑C.length:Int) != (18:Int))=false)))<|du 32 ((↑P.length:Int) != (↑k:Int)) (by simp;omega)<|zq<|dk (bV)
 rw [if_neg ah]
 have hr:oz i m C=combine i (cM i m C 18):=if_pos hC
 have he:lx C=0:=if_pos hC
 refine zO Tryz.func104 74<|zq<|zS<|zP 1 [yH ([(2,yV (ao (decide (bA (↑k:Int))))),(8,{av:=some (ao (decide ((↑i:Int)<0∨(↑((2:Nat)^k):Int)≤(↑i:Int)))),g:=false}),(9,{b:=false})]++yg [4,5,6,7])] [.ae [20,6,5,3,0,1,2] [5,3]] ([yI (hU ((↑k:Int)))]++yM 5 (yF (bA (↑k:Int)))++ [yI (iA ((↑i:Int)) k hk),yF (bA (↑k:Int))])<|dp 20 ((↑i:Int)<0∨(↑((2:Nat)^k):Int)≤(↑i:Int))<|a_<|zS<|zP 1 [yH ([(2,{k:=C.length}),(7,{k:=P.length,g:=false}),(11,{b:=false})]++yg [5,6,8,9,10])] [.ae [32,20,6,5,3,0,1,2] [5,3]] ([yI (aA C)]++yM 3 (yS (((↑C.length:Int) != (18:Int))=false))++ [yI (aA P)]++yM 4 (yS (((↑C.length:Int) != (18:Int))=false)))<|bj 32 ((↑P.length:Int) != (↑k:Int)) (by simp_all)<|a_<|zP 1 [yH [(5,yV (AV.bq [aw (oz (↑i:Int) m C),ai (lx C)]))]] [.ae [8,7,32,20,6,5,3,0,1,2] [5,3]] [yI (Al ((↑i:Int)) m C)]<|zS<|zq<|bj 43 (lx C != (0:Int)) (by simp_all)<|a_<|zS<|zP 1 [yH [(2,{k:=P.length})]] [.ae [48,47,46,43,8,7,32,20,6,5,3,0,1,2] [5,3]] [yI (aA P)]<|zB 0 (zL (fun (j:Nat)=>(⟨[(47,ai (↑P.length:Int)),(46,AV.sl 1 (aj P)),(43,ao (lx C != (0:Int))),(8,ai (lx C)),(32,ao ((↑P.length:Int) != (↑k:Int))),(20,ao (decide ((↑i:Int)<0∨(↑((2:Nat)^k):Int)≤(↑i:Int)))),(6,ai 0),(5,AV.addr 5 0),(3,AV.addr 3 0),(0,AV.agg [ai ↑k,aw r]),(1,aw m),(2,AV.agg [ai ↑i,AV.sl 1 (aj C),AV.sl 1 (aj P)]),(48,ai j),(7,aw (dv i P (combine i (cM i m C 18)) j))],[(5,⟨1,false,true,[ai ↑i,AV.sl 1 (aj C),AV.sl 1 (aj P)]⟩),(3,⟨1,false,true,[ai ↑k,aw r]⟩)]⟩:AS)) (fun j=>(j≤k)) (fun j=>(k-j)) (0) ?_ (eK [.ae [47,46,43,8,32,20,6,5,3,0,1,2,48,7] [5,3]] [7] [] [yB (aw (oz (↑i:Int) m C)=aw (dv i P (combine (↑i:Int) (cM (↑i:Int) m C 18)) 0)) (congrArg aw hr)]) ?_)
 ·omega
 intro j hj
 refine bf.i9 1 [{}] bh (s':=AS.mk [(49,ao (decide ((↑j:Int)<(↑P.length:Int)))),(47,ai (↑P.length:Int)),(46,AV.sl 1 (aj P)),(43,ao (lx C != (0:Int))),(8,ai (lx C)),(32,ao ((↑P.length:Int) != (↑k:Int))),(20,ao (decide ((↑i:Int)<0∨(↑((2:Nat)^k):Int)≤(↑i:Int)))),(6,ai 0),(5,AV.addr 5 0),(3,AV.addr 3 0),(0,AV.agg [ai ↑k,aw r]),(1,aw m),(2,AV.agg [ai ↑i,AV.sl 1 (aj C),AV.sl 1 (aj P)]),(48,ai ↑j),(7,aw (dv i P (combine (↑i:Int) (cM (↑i:Int) m C 18)) j))] [(5,Row.mk 1 false true [ai ↑i,AV.sl 1 (aj C),AV.sl 1 (aj P)]),(3,Row.mk 1 false true [ai ↑k,aw r])]) (C:=[]) bh trivial<|zS (zD 49 ((↑j:Int)<(↑P.length:Int)) (fun g=>?_) (fun g=>?_))
 ·have hs:=wi i j ah
  have hle:i/2^j≤i:=Nat.div_le_self ..
  have hq:i/2^j<16:=ah
  have ha:=EV _ hq
  have MX:(0:Int)≤wv (u64 (j:Int)):=Int.natCast_nonneg _
  have RM:IntKind.i64.wrap ((j:Int)+1)=((j+1:Nat):Int):=by rw [e_ ah ah];omega
  have hc:dv i P (combine i (cM i m C 18)) (j+1)=if i/2^j%2=0 then gP ((j+1:Nat):Int) (dv i P (combine i (cM i m C 18)) j) (P.getD j 0) else gP ((j+1:Nat):Int) (P.getD j 0) (dv i P (combine i (cM i m C 18)) j):=rfl
  generalize i/2^j=q at *
  generalize hx:dv i P (combine i (cM i m C 18)) j=x at *
  by_cases h2:q%2=0
  ·rw [if_pos h2] at hc
   generalize q%2=q2 at *
   refine a_<|zS<|zB 1<|zP 2 [yH [(1,{k:=j}),(2,yV (aw (P.getD j 0)))],yH [(3,yV (ai ↑q)),(4,yV (ai ↑q2))]] [.ae [58,10,9,49,47,46,43,8,32,20,6,5,3,0,1,2,48,7] [5,3]] [yR (↑j:Int),yB (j<(aj P).length) (by simp only [aA];omega),yB ((aj P)[j]?=some (aw (P.getD j 0))) (dI ah),yI (yc hs),yO ((0:Int)≤(↑j:Int)),yI (yc ha)]<|du 58 ((↑q2:Int) == (0:Int)) fb<|zX (yH [(1,yV (ai (↑(j+1):Int))),(4,yV (aw (gP (↑(j+1):Int) x (P.getD j 0))))]) [yB (ai (IntKind.i64.wrap ((↑j:Int)+1))=ai (↑(j+1):Int)) (dG ah ah),yI (pb (↑(j+1):Int) x (P.getD j 0))]<|aM<|ak<|bf.Oh {hs:=[(0,{av:=some (ai ((↑j:Int)+1))})]} (s':=AS.mk [(48,ai ((↑j:Int)+1)),(69,ai ((↑j:Int)+1)),(7,aw (gP (↑(j+1):Int) x (P.getD j 0))),(63,aw (gP (↑(j+1):Int) x (P.getD j 0))),(62,aw (P.getD j 0)),(61,aw x),(60,ai (↑(j+1):Int)),(59,ai ↑j),(58,ao ((↑q2:Int) == (0:Int))),(10,aw (P.getD j 0)),(9,ai ↑j),(49,ao (decide ((↑j:Int)<(↑P.length:Int)))),(47,ai (↑P.length:Int)),(46,AV.sl 1 (aj P)),(43,ao (lx C != (0:Int))),(8,ai (lx C)),(32,ao ((↑P.length:Int) != (↑k:Int))),(20,ao (decide ((↑i:Int)<0∨(↑((2:Nat)^k):Int)≤(↑i:Int)))),(6,ai 0),(5,AV.addr 5 0),(3,AV.addr 3 0),(0,AV.agg [ai ↑k,aw r]),(1,aw m),(2,AV.agg [ai ↑i,AV.sl 1 (aj C),AV.sl 1 (aj P)])] [(5,Row.mk 1 false true [ai ↑i,AV.sl 1 (aj C),AV.sl 1 (aj P)]),(3,Row.mk 1 false true [ai ↑k,aw r])]) (C:=[ai (IntKind.i64.wrap ((↑j:Int)+1))=ai ((↑j:Int)+1)]) bh ⟨(dG ah ah),trivial⟩ (aJ (j+1) ah ah (eK [.ae [47,46,43,8,32,20,6,5,3,0,1,2,48,7] [5,3]] [7] [] [yB (aw (gP (↑(j+1):Int) x (P.getD j 0))=aw (dv i P (combine (↑i:Int) (cM (↑i:Int) m C 18)) (j+1))) (by rw [hc])]))
  ·rw [if_neg h2] at hc
   generalize q%2=q2 at *
   refine a_<|zS<|zB 1<|zP 2 [yH [(1,{k:=j}),(2,yV (aw (P.getD j 0)))],yH [(3,yV (ai ↑q)),(4,yV (ai ↑q2))]] [.ae [58,10,9,49,47,46,43,8,32,20,6,5,3,0,1,2,48,7] [5,3]] [yR (↑j:Int),yB (j<(aj P).length) (by simp only [aA];omega),yB ((aj P)[j]?=some (aw (P.getD j 0))) (dI ah),yI (yc hs),yO ((0:Int)≤(↑j:Int)),yI (yc ha)]<|bj 58 ((↑q2:Int) == (0:Int)) bE<|zX (yH [(1,yV (ai (↑(j+1):Int))),(4,yV (aw (gP (↑(j+1):Int) (P.getD j 0) x)))]) [yB (ai (IntKind.i64.wrap ((↑j:Int)+1))=ai (↑(j+1):Int)) (dG ah ah),yI (pb (↑(j+1):Int) (P.getD j 0) x)]<|aM<|ak<|zX (yH [(0,yV (ai ((↑j:Int)+1)))]) [yN ((↑j:Int)+1)] (aJ (j+1) ah ah (eK [.ae [47,46,43,8,32,20,6,5,3,0,1,2,48,7] [5,3]] [7] [] [yB (aw (gP (↑(j+1):Int) (P.getD j 0) x)=aw (dv i P (combine (↑i:Int) (cM (↑i:Int) m C 18)) (j+1))) (by rw [hc])]))
 ·have e:j=k:=ah
  subst e
  by_cases ke:dv i P (combine i (cM i m C 18)) j=r
  ·rw [if_pos ke]
   refine zE 0<|a7<|aO<|bn<|ak<|zS<|zP 1 [yH [(3,yV (ao (dv i P (combine (↑i:Int) (cM (↑i:Int) m C 18)) j != r)))]] [.ae [73,49,47,46,43,8,32,20,6,5,3,0,1,2,48,7] [5,3]] [yI (cJ (dv i P (combine (↑i:Int) (cM (↑i:Int) m C 18)) j) r)]<|bj 73 (dv i P (combine (↑i:Int) (cM (↑i:Int) m C 18)) j != r) (by simp_all)<|a_<|zq<|zR (bV)
  ·rw [if_neg ke]
   refine zE 0<|a7<|aO<|bn<|ak<|zS<|zP 1 [yH [(3,yV (ao (dv i P (combine (↑i:Int) (cM (↑i:Int) m C 18)) j != r)))]] [.ae [73,49,47,46,43,8,32,20,6,5,3,0,1,2,48,7] [5,3]] [yI (cJ (dv i P (combine (↑i:Int) (cM (↑i:Int) m C 18)) j) r)]<|du 73 (dv i P (combine (↑i:Int) (cM (↑i:Int) m C 18)) j != r) (by simp_all)<|zq<|dk (bV)
instance:Inhabited gk:=⟨⟨[],0,[],[]⟩⟩
def Oi (a b:List UInt8):Bool:=Op.bytesLess (⟨a.toArray⟩:ByteArray).toList (⟨b.toArray⟩:ByteArray).toList
def gA (leaf:Int):UInt64:=(1:UInt64)<<<UInt64.ofNat leaf.toNat
def KI (l:List Mem) (n:List UInt8):Mem:=l.getD (dF l n).toNat default
def jV (g:gK) (w:UInt64) (l:List gk) (i:Nat):Int :=
 if 0<i∧FA (l.getD i default).name (l.getD (i-1) default).name=true then 7 else if dF g.al (l.getD i default).name<0 then 11
 else if ku (KI g.al (l.getD i default).name).h (KI g.al (l.getD i default).name).r w (l.getD i default).leaf (l.getD i default).ct (l.getD i default).path≠0 then ku (KI g.al (l.getD i default).name).h (KI g.al (l.getD i default).name).r w (l.getD i default).leaf (l.getD i default).ct (l.getD i default).path
 else if (KI g.al (l.getD i default).name).used&&&gA (l.getD i default).leaf≠0 then 37 else 0
def fv (g:gK) (w:UInt64) (l:List gk):Int:=if ff (jV g w l) l.length≠0 then ff (jV g w l) l.length else if (l.length:Int)<g.bt then 41 else 0
def po (l:List Mem) (k:Nat):List Mem:=l.take k++l.drop (k+1)
def sI (g:gK) (l:List (List UInt8)) (i:Nat):Int:=if dF g.al (l.getD i default)<0 then 11 else 0
def gI (g:gK) (e:eF):Int :=
 if e.kind=1 then (if 0≤dF g.al e.name then 10 else if 8≤g.al.length then 12 else 0)
 else if e.kind=2 then (if dF g.al e.name<0 then 11 else if (g.al.length:Int)-1<g.bt then 41 else 0)
 else if e.kind=3 then (if (g.al.length:Int)<e.bt∨2*e.bt≤g.al.length then 41 else 0)
 else if e.kind=4 then (if 8≤g.aK.length then 12 else if vr g.aK e.dep.bR<g.aK.length then 10 else ff (sI g e.dep.aa) e.dep.aa.length)
 else if vr g.aK e.bR=g.aK.length then 11 else if (g.aK.getD (vr g.aK e.bR) default).target≠0 then 18 else 0
def qP (l:List m0) (k:Nat) (t:UInt64):List m0:=l.set k {l.getD k default with target:=t}
def cQ (g:gK) (e:eF):gK :=
 if gI g e≠0 then g else if e.kind=1 then {g with bt:=if 2*g.bt≤g.al.length+1 then g.bt+1 else g.bt,al:=g.al++ [⟨e.name,e.kh,e.kr,0⟩]}
 else if e.kind=2 then {g with al:=po g.al (dF g.al e.name).toNat} else if e.kind=3 then {g with bt:=e.bt}
 else if e.kind=4 then {g with aK:=g.aK++ [e.dep]} else {g with aK:=qP g.aK (vr g.aK e.bR) e.target}
def pH (l:List Mem) (v:gk):List Mem:=if dF l v.name<0 then l else l.set (dF l v.name).toNat {KI l v.name with used:=(KI l v.name).used|||gA v.leaf}
def j8 (l:List Mem) (vs:List gk):List Mem:=vs.foldl pH l
def fI (g:gK) (e:eF):Int:=if eu e≠0 then eu e else if e.aB≠g.aB+1∨e.prev≠g.head then 42 else if fv g (de e) e.aq≠0 then fv g (de e) e.aq else gI g e
def iq (g:gK) (e:eF):gK:=if fI g e≠0 then g else ⟨e.aB,de e,(cQ g e).bt,j8 (cQ g e).al e.aq,(cQ g e).aK⟩
def Ar (l:List gk) (n:List UInt8):Nat:=(l.takeWhile fun v=>Oi v.name n).length
def Jk (l:List gk) (n:List UInt8):Bool:=l.any fun v=>v.name == n
def lL (e:eF) (n:List UInt8) (h leaf:Int):Int:=if eu e≠0 then eu e else if Jk e.aq n=true then 10 else wj h leaf
def AG (l:List gk) (v:gk):List gk:=l.take (Ar l v.name)++ [v]++l.drop (Ar l v.name)
def tA (e:eF) (n:List UInt8) (seed:UInt64) (h leaf:Int):eF :=
 if lL e n h leaf≠0 then ⟨0,0,0,[],0,0,0,⟨0,0,[],[],[],0,0⟩,0,0,[]⟩ else {e with aq:=AG e.aq ⟨n,oV h leaf,oy seed h leaf (de e),ox seed h leaf⟩}
theorem tB {h:Int} {r m:UInt64} {leaf:Int} {C P:List UInt64} (e:ku h r m leaf C P=0):0≤leaf∧leaf<16:=by
 have nb:¬i6 h leaf:=by
  intro q
  unfold ku at e
  rw [if_pos q] at e;omega
 unfold i6 bA at nb
 have:2^h.toNat≤2^4:=Nat.pow_le_pow_right (by decide) ah
 omega
theorem N6 (u:UInt64) (n:Nat) (h:n<64):((u>>>UInt64.ofNat n)&&&1=1)↔u&&&((1:UInt64)<<<UInt64.ofNat n)≠0:=by
 have hn:(UInt64.ofNat n).toNat%64=n:=by rw [UInt64.toNat_ofNat_of_lt' (by show n<2^64;omega)];omega
 have h1:((u>>>UInt64.ofNat n)&&&1=1)↔u.toNat.testBit n=true:=by
  rw [←UInt64.toNat_inj,UInt64.toNat_and,UInt64.toNat_shiftRight,hn]
  show (u.toNat>>>n)&&&1=1↔_
  rw [Nat.and_one_is_mod,Nat.testBit]
  simp [Nat.one_and_eq_mod_two]
 have h2:u&&&((1:UInt64)<<<UInt64.ofNat n)=0↔u.toNat.testBit n=false:=by
  rw [←UInt64.toNat_inj,UInt64.toNat_and,UInt64.toNat_shiftLeft,hn]
  show u.toNat&&&((1<<<n)%2^64)=0↔_
  rw [Nat.mod_eq_of_lt (by rw [Nat.one_shiftLeft];exact Nat.pow_lt_pow_right (by decide) h),Nat.one_shiftLeft]
  constructor
  ·intro q
   cases hb:u.toNat.testBit n with
   | false=>rfl
   | true =>
    have:=congrArg (fun x=>x.testBit n) q
    simp [Nat.testBit_and,hb,Nat.testBit_two_pow_self] at this
  ·intro q
   refine Nat.eq_of_testBit_eq fun i=>?_
   rw [Nat.testBit_and,Nat.testBit_two_pow,Nat.zero_testBit]
   by_cases e:n=i
   ·subst e;rw [q];rfl
   ·simp [e]
 rw [h1,ne_eq,h2]
 cases u.toNat.testBit n<;>simp
theorem gF (l:List Mem) (n:List UInt8):dF l n= -1∨ ∃k:Nat,dF l n=k∧k<l.length∧(l.getD k default).name=n:=by
 unfold dF
 split
 ·rename_i h
  obtain ⟨m,hm,e⟩:=h
  have dh:=List.findIdx_lt_length_of_exists (p:=fun m:Mem=>m.name == n) ⟨m,hm,by simp [e]⟩
  refine .inr ⟨_,rfl,dh,?_⟩
  have:=List.findIdx_getElem (p:=fun m:Mem=>m.name == n) (w:=dh)
  rw [List.getD_eq_getElem?_getD,List.getElem?_eq_getElem dh]
  simpa using this
 ·exact .inl rfl
def Ki (es:List (Nat×Nat)) (j:Nat):AV->AV
 | .nil=>(match look es j with|some e=>.sl e []|none=>.nil)
 | x=>x
theorem Kh (es:List (Nat×Nat)) (j:Nat) (x:AV):Ki es j x=x∨x= .nil∧ ∃e,Ki es j x= .sl e []:=by
 cases x with
 | nil =>
  cases h:look es j with
  | none=>exact .inl (by show (match look es j with|some e=>AV.sl e []|none=>.nil)=_;rw [h])
  | some e=>exact .inr ⟨rfl,e,by show (match look es j with|some e=>AV.sl e []|none=>.nil)=_;rw [h]⟩
 | _=>exact .inl rfl
def JW (es:List (Nat×Nat)):List AV->Nat->List AV
 | [],_=>[]
 | x::l,j=>Ki es j x::JW es l (j+1)
def QD (es:List (Nat×Nat)):AV->AV
 | .agg cs=>.agg (JW es cs 0)
 | x=>x
theorem xg (es:List (Nat×Nat)):∀(l:List AV) (j:Nat),(JW es l j).length=l.length
 | [],_=>rfl
 | _::l,j=>congrArg (· +1) (xg es l (j+1))
theorem BQ (es:List (Nat×Nat)):∀(l:List AV) (j i:Nat) (y:AV),(JW es l j)[i]?=some y-> ∃x,l[i]?=some x∧(y=x∨x= .nil∧ ∃e,y= .sl e [])
 | [],_,_,_,h=>by cases h
 | x::l,j,0,y,h=>by
  have h:some (Ki es j x)=some y:=h
  injection h with h
  subst h
  exact ⟨x,rfl,Kh es j x⟩
 | x::l,j,i+1,y,h=>BQ es l (j+1) i y h
theorem cz.QD (es:List (Nat×Nat)) {S:Nat->Prop} {w:World} {v:Value} {x:AV} (h:cz S w v x):cz S w v (QD es x):=by
 cases h with
 | agg vs cs hl h =>
  refine .agg vs _ (by rw [hl,xg]) fun j v c hv hc=>?_
  obtain ⟨x,hx,e⟩:=BQ es cs 0 j c hc
  have hr:=h j v x hv hx
  rcases e with rfl|⟨rfl,e,rfl⟩
  ·exact hr
  ·cases hr;exact iN none 0 0 e (by simp) (Nat.le_refl _) (by simp)
 | nil=>exact .nil
 | val v=>exact .val v
 | bq vs cs hl h=>exact .bq vs cs hl h
 | arr vs cs hl h=>exact .arr vs cs hl h
 | sl A n c e us row hl hn hc hm ha h=>exact .sl A n c e us row hl hn hc hm ha h
 | pg A n e us row hl hn hm ha h=>exact .pg A n e us row hl hn hm ha h
 | ptr ad us row off hl hs ha h=>exact .ptr ad us row off hl hs ha h
 | lI f vs cs hl h=>exact .lI f vs cs hl h
theorem bK.HH (es:List (Nat×Nat)) {P:Program} {f:FuncId} {args:List AV} {r:AV} (h:bK P f (args.map (QD es)) r):bK P f args r:=by
 intro w S vs jZ hS hv hr
 refine h w S vs jZ hS (by rw [List.length_map];exact hv) fun j v y Ur hy=>?_
 rw [List.getElem?_map] at hy
 cases hx:args[j]? with
 | none=>rw [hx] at hy;cases hy
 | some x=>rw [hx] at hy;cases hy;exact (hr j v x Ur hx).QD es
theorem bS.Ri {s:AS} (id:Nat) (es:List (Nat×Nat)) {r:Row} (hr:look s.H id=some r):bS s ⟨s.F,(id,⟨r.e,r.pure,r.full,JW es r.cells 0⟩)::cS s.H id⟩:=by
 intro S0 w0 n a w ⟨φ,hs⟩
 have hl:=xg es r.cells 0
 have hI:az ((id,(⟨r.e,r.pure,r.full,JW es r.cells 0⟩:Row))::cS s.H id) φ=az s.H φ:=by
  funext i
  unfold az
  rw [aE]
  by_cases e1:id=i
  ·subst e1;rw [if_pos rfl,hr];show some (r.e,(JW es r.cells 0).length,φ id)=_;rw [hl];rfl
  ·rw [if_neg e1,bI,if_neg e1]
 refine ⟨φ,hs.jP,hs.jS,hs.cX,fun i av hi=>by rw [hI];exact hs.cC i av hi,fun i q hq=>?_,fun i hi=>?_,hs.inj,hs.cW,hs.apart,hs.new⟩
 ·rw [hI]
  rw [aE] at hq
  by_cases e1:id=i
  ·subst e1
   rw [if_pos rfl] at hq;injection hq with hq;subst hq
   have aP:=hs.rows id r hr
   unfold bN at aP ⊢
   cases hg:φ id with
   | none=>rw [hg] at aP;exact List.eq_nil_of_length_eq_zero (by rw [hl,aP];rfl)
   | some g =>
    rw [hg] at aP
    obtain ⟨cur,te,fr,u1,u2,u3,u4,u5⟩:=aP
    refine ⟨cur,te,fr,u1,u2,by rw [hl];exact u3,fun h=>by rw [hl];exact u4 h,fun k u x hu hx=>?_⟩
    obtain ⟨y,hy,e⟩:=BQ es r.cells 0 k x hx
    have:=u5 k u y hu hy
    unfold bg at this ⊢
    rcases e with rfl|⟨rfl,e2,rfl⟩
    ·exact this
    ·have hv:u= .slice none 0 0:=by
      cases hp:r.pure with
      | true=>rw [hp] at this;cases this;rfl
      | false =>
       rw [hp] at this
       have this:Den _ _ _ u .nil:=this
       cases this with
       | rep h=>cases h;rfl
     subst hv
     show match r.pure with|true=>cz _ _ _ _|false=>Den _ _ _ _ _
     cases r.pure with
     | true=>exact iN none 0 0 e2 (by simp) (Nat.le_refl _) (by simp)
     | false=>exact .rep (iN none 0 0 e2 (by simp) (Nat.le_refl _) (by simp))
  ·rw [if_neg e1,bI,if_neg e1] at hq
   exact hs.rows i q hq
 ·rw [aE] at hi
  by_cases e1:id=i
  ·subst e1;rw [if_pos rfl] at hi;cases hi
  ·rw [if_neg e1,bI,if_neg e1] at hi;exact hs.only i hi
def B0 (s:AS) (id:Nat):Row:=match look s.H id with|some r=>r|none=>⟨0,true,false,[]⟩
theorem bS.MR {s:AS} (id:Nat) (es:List (Nat×Nat)) (hr:look s.H id=some (B0 s id)):bS s ⟨s.F,(id,⟨(B0 s id).e,(B0 s id).pure,(B0 s id).full,JW es (B0 s id).cells 0⟩)::cS s.H id⟩:=bS.Ri id es hr
theorem MT {ι:Type} {Inv:ι->Prop} {J:ι->AS} {s s1:AS} (hw:bS s s1) (h:∃x,Inv x∧bS s1 (J x)):∃x,Inv x∧bS s (J x):=by
 obtain ⟨x,hx,h⟩:=h
 exact ⟨x,hx,fun S0 w0 n a w hs=>h S0 w0 n a w (hw S0 w0 n a w hs)⟩
end Go.Proofs.YtjgbhhnghedgdaaGreatDoor
