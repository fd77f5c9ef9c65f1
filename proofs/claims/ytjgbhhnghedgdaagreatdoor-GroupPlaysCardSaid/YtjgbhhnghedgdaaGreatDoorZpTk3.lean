import Derived.Test.YtjgbhhnghedgdaaGreatDoorZpTk2
set_option linter.all false
namespace Go.Proofs.YtjgbhhnghedgdaaGreatDoor
open Go.RowKit
set_option maxRecDepth 100000
set_option maxHeartbeats 4000000
def dh (seed:UInt64) (leaf:Nat) (n:Nat):List UInt64:=(List.range n).map fun k=>fV seed k (leaf/2^k^^^1)
theorem tR (seed:UInt64) (leaf k:Nat):dh seed leaf (k+1)=dh seed leaf k++ [fV seed k (leaf/2^k^^^1)]:=by simp [dh,List.range_succ]
theorem qM (seed:UInt64) (leaf k:Nat):(dh seed leaf k).length=k:=by simp [dh]
theorem zl (leaf k:Nat) (hk:k≤4):((leaf:Int)).fdiv (2^min (wv (u64 (k:Int))).toNat IntKind.i64.bits)=((leaf/2^k:Nat):Int):=by
 have e:(2:Int)^min (wv (u64 (k:Int))).toNat IntKind.i64.bits=((2^k:Nat):Int):=by
  rcases (aj:k=0∨k=1∨k=2∨k=3∨k=4) with rfl|rfl|rfl|rfl|rfl<;>decide +kernel
 rw [e,Int.fdiv_eq_ediv_of_nonneg _ (Int.natCast_nonneg _)];rfl
theorem Ds (q:Nat) (hq:q<16):IntKind.i64.wrap ((BitVec.ofInt IntKind.i64.bits (q:Int)^^^BitVec.ofInt IntKind.i64.bits 1).toNat:Nat)=((q^^^1:Nat):Int):=by
 have key:∀q:Fin 16,IntKind.i64.wrap ((BitVec.ofInt IntKind.i64.bits ((q.val:Nat):Int)^^^BitVec.ofInt IntKind.i64.bits 1).toNat:Nat)=((q.val^^^1:Nat):Int):=by decide +kernel
 exact key ⟨q,hq⟩
theorem LV (q:Nat) (hq:q<16):q^^^1<16:=by
 have key:∀q:Fin 16,q.val^^^1<16:=by decide +kernel
 exact key ⟨q,hq⟩
theorem BP (seed:UInt64) (h leaf:Nat) (m:UInt64) (hh:h≤4) (hl:leaf<2^h):bK Tryz.prog 55 [aw seed,ai h,ai leaf,aw m] (.br [.agg [ai leaf,.own 1 (ah (bT seed leaf m 18)),.own 1 (ah (dh seed leaf h))],ai 0]):=by
 have hb:¬bz (h:Int):=by unfold bz;omega
 have hp:2^h≤16:=Nat.pow_le_pow_right (by decide) hh
 have Cf:IntKind.i64.wrap (1*2^min (wv (u64 (h:Int))).toNat IntKind.i64.bits)=((2^h:Nat):Int):=by
  rcases (aj:h=0∨h=1∨h=2∨h=3∨h=4) with rfl|rfl|rfl|rfl|rfl<;>decide +kernel
 have JA:(0:Int)≤wv (u64 (h:Int)):=Int.natCast_nonneg _
 refine zO Tryz.func55 52<|zq<|zS<|zP 1 [yH ([(1,yV (ao (!decide (bz (↑h:Int))))),(6,{b:=false}),(10,{av:=some (aw (u64 (↑h:Int))),g:=false}),(11,{av:=some (ai (↑((2:Nat)^h):Int)),g:=false}),(13,{b:=false})]++yg [4,5,8,9,12])] [.aa [25,9,8,0,1,2,3] [8]] ([yI (ck ((↑h:Int)))]++yM 3 (yS ((!!decide (bz (↑h:Int)))=false))++yM 3 (yR false)++ [yI (a8 ((↑h:Int))),yR false,yI (yc Cf),yI JA,yR false,yR false])<|dp 25 ((↑leaf:Int)≥(↑((2:Nat)^h):Int))<|a7<|zP 1 [yH [(4,yV (AV.own 1 (ah (bT seed (↑leaf:Int) m 18))))]] [.aa [10,25,9,8,0,1,2,3] [10,31,8]] [yI (xh seed ((↑leaf:Int)) m),yB (ld (ah (bT seed (↑leaf:Int) m 18))) (gm _),yL 3 3]<|zS<|zq<|zB 0<|bf.oe (bR.Jc 10 2 49 1 (r:=⟨1,false,true,[ai leaf,.ref 31,.nil]⟩) bD rfl rfl bD) (zL (fun (k:Nat)=>(⟨[(10,AV.addr 10 0),(25,ao (decide ((↑leaf:Int)≥(↑((2:Nat)^h):Int)))),(9,ai 0),(8,AV.addr 8 0),(0,aw seed),(1,ai ↑h),(2,ai ↑leaf),(3,aw m),(11,ai k)],[(8,⟨1,false,true,[ai 0,AV.nil,AV.nil]⟩),(31,⟨1,true,false,ah (bT seed (↑leaf:Int) m 18)⟩),(10,⟨1,false,true,[ai leaf,AV.ref 31,AV.ref 49]⟩),(49,⟨1,true,false,ah (dh seed leaf k)⟩)]⟩:AS)) (fun k=>(k≤h)) (fun k=>(h-k)) (0) ?_ (zW [.aa [10,25,9,8,0,1,2,3,11] [8,31,10,49]]) ?_)
 ·omega
 intro k hk
 refine zS<|bf.pG 1 [{}] [.aa [35,10,25,9,8,0,1,2,3,11] [8,31,10,49]] bD (s':=AS.mk [(35,ao (decide ((↑k:Int)<(↑h:Int)))),(10,AV.addr 10 0),(25,ao (decide ((↑leaf:Int)≥(↑((2:Nat)^h):Int)))),(9,ai 0),(8,AV.addr 8 0),(0,aw seed),(1,ai ↑h),(2,ai ↑leaf),(3,aw m),(11,ai ↑k)] [(8,Row.mk 1 false true [ai 0,AV.nil,AV.nil]),(31,Row.mk 1 true false (ah (bT seed (↑leaf:Int) m 18))),(10,Row.mk 1 false true [ai ↑leaf,AV.ref 31,AV.ref 49]),(49,Row.mk 1 true false (ah (dh seed leaf k)))]) (C:=[]) bD trivial (zD 35 ((↑k:Int)<(↑h:Int)) (fun g=>?_) (fun g=>?_))
 ·have Ay:k≤4:=aj
  have hs:=zl leaf k Ay
  have hle:leaf/2^k≤leaf:=Nat.div_le_self ..
  have hq:leaf/2^k<16:=aj
  have hx:=Ds _ hq
  have dd:=LV _ hq
  have ep:=tR seed leaf k
  have Mw:(0:Int)≤wv (u64 (k:Int)):=Int.natCast_nonneg _
  have hn:=rM seed k (leaf/2^k^^^1) Ay (Nat.lt_of_lt_of_le dd (Nat.le_trans (by decide:16≤2^36) (Nat.pow_le_pow_right (by decide) aj)))
  generalize leaf/2^k^^^1=x at *
  generalize fV seed k x=r at *
  generalize leaf/2^k=q at *
  refine a7<|zS<|zB 1<|zX ({hs:=[(6,yV (aw (u64 (↑k:Int)))),(7,yV (ai ↑q)),(8,yV (ai ↑x)),(9,yV (aw r)),(10,yV (AV.arr (ah [r]))),(11,yV (AV.arr (ah (dh seed leaf k++ [r]))))],T:=11}) [yI (a8 ((↑k:Int))),yI (yc hs),yI Mw,yI (yc hx),yI hn,yR [aw r],yB (ah (dh seed leaf k)++ah [r]=ah (dh seed leaf k++ [r])) (ja _ _),yB (((ah (dh seed leaf k)).length+1)*8≤140737488355328) (by simp only [aB,qM];omega),yL 3 3]<|aL<|ak<|zX (yH [(1,yV (ai ((↑k:Int)+1)))]) [yN ((↑k:Int)+1)] (aH (k+1) aj aj (eJ [.aa [10,25,9,8,0,1,2,3,11] [8,31,10,49]] [] [49] [yB (ah (dh seed leaf k++ [r])=ah (dh seed leaf (k+1))) (congrArg ah ep.symm)]))
 ·have e:k=h:=aj
  subst e
  refine zE 0<|a_<|aP<|bo<|ak<|zP 1 [{}] [.aa [9,35,10,25,8,0,1,2,3,11] [8,31,10,49]] [yL 3 3]<|zR (bU)
def i3 (h leaf:Int):Prop:=bz h∨leaf<0∨((2^h.toNat:Nat):Int)≤leaf
instance (h leaf:Int):Decidable (i3 h leaf):=by unfold i3;infer_instance
def vX (h leaf:Int):Int:=if i3 h leaf then 9 else 0
def oM (h leaf:Int):Int:=if i3 h leaf then 0 else leaf
def oi (seed:UInt64) (h leaf:Int) (m:UInt64):List UInt64:=if i3 h leaf then [] else bT seed leaf m 18
def oh (seed:UInt64) (h leaf:Int):List UInt64:=if i3 h leaf then [] else dh seed leaf.toNat h.toNat
theorem rL (seed:UInt64) (h leaf:Int) (m:UInt64):bK Tryz.prog 55 [aw seed,ai h,ai leaf,aw m] (.br [.agg [ai (oM h leaf),.own 1 (ah (oi seed h leaf m)),.own 1 (ah (oh seed h leaf))],ai (vX h leaf)]):=by
 by_cases eU:i3 h leaf
 ·have e1:vX h leaf=9:=if_pos eU
  have e2:oM h leaf=0:=if_pos eU
  have e3:oi seed h leaf m= []:=if_pos eU
  have e4:oh seed h leaf= []:=if_pos eU
  rw [e1,e2,e3,e4]
  unfold i3 at eU
  by_cases hb:bz h
  ·refine zO Tryz.func55 52<|zq<|zS<|zP 1 [yH [(1,yV (ao (!decide (bz h))))]] [.aa [25,9,8,0,1,2,3] [8]] ([yI (ck h)]++yM 3 (yS ((!!decide (bz h))=true))++yM 6 (yR true))<|zT 25<|zP 1 [{}] [.aa [9,25,8,0,1,2,3] [8]] [yL 3 3]<|dt (bU)
  have q7:0≤h∧h≤4:=by unfold bz at hb;omega
  obtain ⟨k,rfl⟩:=Int.eq_ofNat_of_zero_le q7.1
  rw [Int.toNat_natCast] at eU
  by_cases dd:leaf<0
  ·refine zO Tryz.func55 52<|zq<|zS<|zP 1 [yH ([(1,yV (ao (!decide (bz (↑k:Int))))),(6,{b:=false})]++yg [4,5])] [.aa [25,9,8,0,1,2,3] [8]] ([yI (ck ((↑k:Int)))]++yM 3 (yS ((!!decide (bz (↑k:Int)))=false))++yM 6 (yT (leaf<0)))<|zT 25<|zP 1 [{}] [.aa [9,25,8,0,1,2,3] [8]] [yL 3 3]<|dt (bU)
  have uz:((2^k:Nat):Int)≤leaf:=by rcases eU with h|h|h<;>first|exact absurd h hb|exact absurd h dd|exact h
  have hp:2^k≤16:=Nat.pow_le_pow_right (by decide) (by omega:k≤4)
  have Cf:IntKind.i64.wrap (1*2^min (wv (u64 (k:Int))).toNat IntKind.i64.bits)=((2^k:Nat):Int):=by
   rcases (aj:k=0∨k=1∨k=2∨k=3∨k=4) with rfl|rfl|rfl|rfl|rfl<;>decide +kernel
  have JA:(0:Int)≤wv (u64 (k:Int)):=Int.natCast_nonneg _
  generalize 2^k=p2 at *
  refine zO Tryz.func55 52<|zq<|zS<|zP 1 [yH ([(1,yV (ao (!decide (bz (↑k:Int))))),(6,{b:=false}),(10,{av:=some (aw (u64 (↑k:Int))),g:=false}),(11,{av:=some (ai ↑p2),g:=false}),(13,{b:=false})]++yg [4,5,8,9,12])] [.aa [25,9,8,0,1,2,3] [8]] ([yI (ck ((↑k:Int)))]++yM 3 (yS ((!!decide (bz (↑k:Int)))=false))++yM 3 (yF (leaf<0))++ [yI (a8 ((↑k:Int))),yF (leaf<0),yI (yc Cf),yI JA]++yM 2 (yF (leaf<0)))<|ib 25 (leaf≥(↑p2:Int))<|zP 1 [{}] [.aa [9,25,8,0,1,2,3] [8]] [yL 3 3]<|dt (bU)
 ·have e1:vX h leaf=0:=if_neg eU
  have e2:oM h leaf=leaf:=if_neg eU
  have e3:oi seed h leaf m=bT seed leaf m 18:=if_neg eU
  have e4:oh seed h leaf=dh seed leaf.toNat h.toNat:=if_neg eU
  rw [e1,e2,e3,e4]
  unfold i3 bz at eU
  have q7:0≤h∧h≤4∧0≤leaf:=aj
  obtain ⟨k,rfl⟩:=Int.eq_ofNat_of_zero_le q7.1
  obtain ⟨i,rfl⟩:=Int.eq_ofNat_of_zero_le q7.2.2
  rw [Int.toNat_natCast,Int.toNat_natCast]
  rw [Int.toNat_natCast] at eU
  exact BP seed k i m aj aj
theorem GG (seed:UInt64) (h leaf:Int) (m:UInt64) (eU:i3 h leaf):bK Tryz.prog 51 [aw seed,ai h,ai leaf,aw m] (.br [.agg [ai 0,.sl 1 (ah []),.own 1 (ah [])],ai 9]):=by
 unfold i3 at eU
 by_cases hb:bz h
 ·refine zO Tryz.func51 48<|zq<|zS<|zP 1 [yH [(1,yV (ao (decide (bz h))))]] [.aa [19,9,8,6,5,0,1,2,3] [8,6,5]] ([yI (g_ h)]++yM 4 (yT (bz h)))<|zT 19<|zP 1 [{}] [.aa [9,19,8,6,5,0,1,2,3] [8,6,5]] [yL 3 3]<|dt (bU)
 have q7:0≤h∧h≤4:=by unfold bz at hb;omega
 obtain ⟨k,rfl⟩:=Int.eq_ofNat_of_zero_le q7.1
 rw [Int.toNat_natCast] at eU
 have ho:leaf<0∨((2^k:Nat):Int)≤leaf:=eU.resolve_left hb
 have hk:k≤4:=aj
 refine zO Tryz.func51 48<|zq<|zS<|zP 1 [yH ([(1,yV (ao (decide (bz (↑k:Int))))),(5,{av:=some (ao (decide (leaf<0∨(↑((2:Nat)^k):Int)≤leaf))),g:=false}),(6,{b:=false})]++yg [3,4])] [.aa [19,9,8,6,5,0,1,2,3] [8,6,5]] ([yI (g_ ((↑k:Int)))]++yM 3 (yF (bz (↑k:Int)))++ [yI (iA leaf k hk),yF (bz (↑k:Int))])<|ib 19 (leaf<0∨(↑((2:Nat)^k):Int)≤leaf)<|zP 1 [{}] [.aa [9,19,8,6,5,0,1,2,3] [8,6,5]] [yL 3 3]<|dt (bU)
def qF (seed:UInt64) (h leaf:Nat) (x:AV) (i:Nat):List (Nat×Row) :=
 [(1000000000005,⟨1,false,true,[ai (h:Int)]⟩),(1000000000006,⟨1,false,true,[ai (leaf:Int)]⟩),(1000000000008,⟨1,false,true,[ai 0,.nil,.nil]⟩),(1000000000010,⟨1,false,true,[ai (leaf:Int),x,.ref 49]⟩),(49,⟨1,true,false,ah (dh seed leaf (min i h))⟩)]
def zk (seed:UInt64) (h:Nat) (m:UInt64):List (Nat×AV) :=
 [(29,.lB 142 [.ptr [ai (h:Int)] 0,.ptr [aw seed] 0]),(10,.addr 1000000000010 0),(9,ai 0),(8,.addr 1000000000008 0),(6,.addr 1000000000006 0),(5,.addr 1000000000005 0),(0,aw seed),(3,aw m)]
theorem zj (seed:UInt64) (h leaf:Nat) (m:UInt64) (L:List AV) (i:Nat) (v:Value):Dq [(v,.sl 1 L)] ⟨zk seed h m,qF seed h leaf (.val v) i⟩ ⟨zk seed h m,qF seed h leaf (.sl 1 L) i⟩:=by
 intro Z w0 n a w φ hs hr
 have h1:=hs.close_ 1000000000010 1 (r:=⟨1,false,true,[ai (leaf:Int),.val v,.ref 49]⟩) (x:=.sl 1 L) (v:=v) rfl rfl rfl (hr (v,.sl 1 L) (by simp))
 refine h1.congr fun i'=>?_
 show look (qF seed h leaf (.sl 1 L) i) i'=look ((1000000000010,⟨1,false,true,[ai (leaf:Int),.sl 1 L,.ref 49]⟩):: [(1000000000005,⟨1,false,true,[ai (h:Int)]⟩),(1000000000006,⟨1,false,true,[ai (leaf:Int)]⟩),(1000000000008,⟨1,false,true,[ai 0,.nil,.nil]⟩),(49,⟨1,true,false,ah (dh seed leaf (min i h))⟩)]) i'
 unfold qF
 simp only [aD]
 by_cases e:1000000000010=i'
 ·subst e;rfl
 ·simp only [e,if_false]
theorem GI (seed:UInt64) (h leaf:Nat) (m:UInt64) (L:List AV) (Z:bm) (w0:World) (n:Nat) (a:Act) (w:World) (φ:Nat->Option Nat) (hs:aG Z w0 n [] (AS.mk (zk seed h m) [(1000000000005,⟨1,false,true,[ai (h:Int)]⟩),(1000000000006,⟨1,false,true,[ai (leaf:Int)]⟩),(1000000000008,⟨1,false,true,[ai 0,.nil,.nil]⟩),(1000000000010,⟨1,false,true,[ai (leaf:Int),.sl 1 L,.nil]⟩)]) a w φ) :
  ∃(jW:Nat->Option Nat) (vs:List Value),vs.length= [AV.sl 1 L].length∧aG Z w0 n [] ⟨zk seed h m,qF seed h leaf (.val (vs.headD default)) 0⟩ a w jW∧ ∀p∈vs.zip [AV.sl 1 L],cA (aM Z w jW []) w p.1 p.2:=by
 obtain ⟨jW,h2⟩:=(bR.Jc 1000000000010 2 49 1 (r:=⟨1,false,true,[ai (leaf:Int),.sl 1 L,.nil]⟩) rfl rfl rfl rfl) Z w0 n a w ⟨φ,hs⟩
 obtain ⟨v,h3,hr⟩:=h2.open_ 1000000000010 1 (r:=⟨1,false,true,[ai (leaf:Int),.sl 1 L,.ref 49]⟩) (x:=.sl 1 L) rfl rfl rfl rfl
 refine ⟨jW,[v],rfl,h3.congr fun i'=>?_,fun p hp=>?_⟩
 ·show look (qF seed h leaf (.val v) 0) i'=look [(1000000000010,⟨1,false,true,[ai (leaf:Int),.val v,.ref 49]⟩),(49,⟨1,true,false,[]⟩),(1000000000005,⟨1,false,true,[ai (h:Int)]⟩),(1000000000006,⟨1,false,true,[ai (leaf:Int)]⟩),(1000000000008,⟨1,false,true,[ai 0,.nil,.nil]⟩)] i'
  have e0:ah (dh seed leaf (min 0 h))= []:=by simp [dh,ah]
  unfold qF
  rw [e0]
  simp only [aD]
  by_cases e:1000000000010=i'
  ·subst e;rfl
  ·simp only [e,if_false]
   by_cases e:49=i'
   ·subst e;rfl
   ·simp only [e,if_false]
 ·obtain rfl:p=(v,.sl 1 L):=by simpa using hp
  exact hr
theorem vW (leaf k:Nat) (hk:k≤4):((leaf:Int)).fdiv (2^min ((k:Int)).toNat IntKind.i64.bits)=((leaf/2^k:Nat):Int):=by
 have e:(2:Int)^min ((k:Int)).toNat IntKind.i64.bits=((2^k:Nat):Int):=by
  rcases (aj:k=0∨k=1∨k=2∨k=3∨k=4) with rfl|rfl|rfl|rfl|rfl<;>decide +kernel
 rw [e,Int.fdiv_eq_ediv_of_nonneg _ (Int.natCast_nonneg _)];rfl
theorem Gj (q m:Nat) (hm:m≤8) (hq:q<2*m):q^^^1<2*m:=by
 have key:∀m:Fin 9,∀q:Fin 16,q.val<2*m.val->q.val^^^1<2*m.val:=by decide +kernel
 exact key ⟨m,aj⟩ ⟨q,aj⟩ hq
theorem JW (seed:UInt64) (h leaf:Nat) (m:UInt64) (hh:h≤4) (hl:leaf<2^h):bK Tryz.prog 51 [aw seed,ai h,ai leaf,aw m] (.br [.agg [ai leaf,.sl 1 (ah (bT seed leaf m 18)),.own 1 (ah (dh seed leaf h))],ai 0]):=by
 have hb:¬bz (h:Int):=by unfold bz;omega
 have hp:2^h≤16:=Nat.pow_le_pow_right (by decide) hh
 have ho:¬((leaf:Int)<0∨((2^h:Nat):Int)≤leaf):=aj
 refine zO Tryz.func51 48<|zq<|zS<|zP 1 [yH ([(1,yV (ao (decide (bz (↑h:Int))))),(5,{av:=some (ao (decide ((↑leaf:Int)<0∨(↑((2:Nat)^h):Int)≤(↑leaf:Int)))),g:=false}),(6,{b:=false})]++yg [3,4])] [.aa [19,9,8,6,5,0,1,2,3] [8,6,5]] ([yI (g_ ((↑h:Int)))]++yM 3 (yF (bz (↑h:Int)))++ [yI (iA ((↑leaf:Int)) h hh),yF (bz (↑h:Int))])<|dp 19 ((↑leaf:Int)<0∨(↑((2:Nat)^h):Int)≤(↑leaf:Int))<|a7<|zS<|Bu 7 [6] [(4,yV (AV.own 1 (ah (bT seed (↑leaf:Int) m 18))))] [yI (vV seed ((↑leaf:Int)) m),yB (ld (ah (bT seed (↑leaf:Int) m 18))) (gm _),yR (ai ↑leaf),yR (aw seed),yR (ai ↑leaf),yR (aw m),yR (AV.sl 1 (ah (bT seed (↑leaf:Int) m 18))),yI (vV seed ((↑leaf:Int)) m),yB (ld (ah (bT seed (↑leaf:Int) m 18))) (gm _),yR (AV.agg [ai ↑leaf,AV.sl 1 (ah (bT seed (↑leaf:Int) m 18)),AV.nil]),yL 3 3]<|ak<|bf.rG [.aa [10,19,9,8,6,5,0,1,2,3] [10,8,6,5]] bD<|zS<|zP 1 [yH [(2,{av:=some (AV.lB 142 [AV.ptr [ai ↑h] 0,AV.ptr [aw seed] 0]),b:=false})]] [.aa [29,10,19,9,8,6,5,0,1,2,3] [10,8,6,5]] [yI (B7 seed ((↑h:Int)))]<|zB 0 ?_
 refine bf.Mk bD _ _ (Ak seed h hh) bD bD bD [(5,1000000000005),(6,1000000000006),(8,1000000000008),(10,1000000000010)] bD [.sl 1 (ah (bT seed leaf m 18))]
  (zk seed h m) (fun vs i=>qF seed h leaf (.val (vs.headD default)) i) ⟨zk seed h m,qF seed h leaf (.sl 1 (ah (bT seed leaf m 18))) (h+1)⟩
  (fun Z w0 a w φ hs=>?_) (fun vs _=>by kernel_rfl) (fun _=>by kernel_rfl) bD (fun vs i _ _=>⟨eg (iE rfl) (eg (iE rfl) (eg (iE rfl) (eg (iE rfl) (eg (qj _) u7)))),by kernel_rfl⟩) (fun vs i hv hi=>?_) (fun vs hv=>?_) ?_
 ·obtain ⟨iG,h1⟩:=(zW [.aa [29,10,9,8,6,5,0,3] [1000000000005,1000000000006,1000000000008,1000000000010]]) Z w0 48 a w ⟨φ,hs⟩
  exact GI seed h leaf m _ Z w0 48 a w iG h1
 ·obtain ⟨v,rfl⟩:=List.length_eq_one_iff.1 hv
  refine bf.QD (AS.mk ([(31,.sl 1 (ah (kE seed h i))),(30,ai (i:Int))]++zk seed h m) [(1000000000005,⟨1,false,true,[ai (h:Int)]⟩),(1000000000006,⟨1,false,true,[ai (leaf:Int)]⟩),(1000000000008,⟨1,false,true,[ai 0,.nil,.nil]⟩),(1000000000010,⟨1,false,true,[ai (leaf:Int),.val v,.ref 49]⟩),(49,⟨1,true,false,ah (dh seed leaf (min i h))⟩)]) bD ?_
  rw [show min i h=i by omega]
  refine bf.QD (AS.mk [(31,.sl 1 (ah (kE seed h i))),(30,ai (i:Int)),(29,.lB 142 [.ptr [ai (h:Int)] 0,.ptr [aw seed] 0]),(10,.addr 1000000000010 0),(9,ai 0),(8,.addr 1000000000008 0),(6,.addr 1000000000006 0),(5,.addr 1000000000005 0),(0,aw seed),(3,aw m)] [(1000000000005,⟨1,false,true,[ai (h:Int)]⟩),(1000000000006,⟨1,false,true,[ai (leaf:Int)]⟩),(1000000000008,⟨1,false,true,[ai 0,.nil,.nil]⟩),(1000000000010,⟨1,false,true,[ai (leaf:Int),.val v,.ref 49]⟩),(49,⟨1,true,false,ah (dh seed leaf i)⟩)]) bD<|zq<|zX {} []<|ak<|zB 1<|zS<|zP 1 [{}] [.aa [34,12,11,31,30,29,10,9,8,6,5,0,3] [1000000000005,1000000000006,1000000000008,1000000000010,49]] [] (bf.Jb (x:=.tmp 34) (u:=(↑i:Int)) (v:=(↑h:Int)) bD bD (fun g=>?_) (fun g=>?_))
  ·have e:i=h:=aj
   subst e
   refine zE 0<|a_<|OM bD ?_
   refine ⟨qF seed i leaf (.val v) (i+1),⟨zk seed i m,qF seed i leaf (.sl 1 (ah (bT seed leaf m 18))) (i+1)⟩,eg (iE rfl) (eg (iE rfl) (eg (iE rfl) (eg (iE rfl) (eg (qj _) u7)))),by kernel_rfl,
    bR.of [.aa [] [1000000000005,1000000000006,1000000000008,1000000000010,49]] (s1:=AS.mk [] [(1000000000005,⟨1,false,true,[ai (i:Int)]⟩),(1000000000006,⟨1,false,true,[ai (leaf:Int)]⟩),(1000000000008,⟨1,false,true,[ai 0,.nil,.nil]⟩),(1000000000010,⟨1,false,true,[ai (leaf:Int),.val v,.ref 49]⟩),(49,⟨1,true,false,ah (dh seed leaf i)⟩)]) bD (by unfold qF;rw [show min (i+1) i=i by omega]),zj seed i leaf m _ (i+1) v,bo (ak ?_)⟩
   refine bf.QD (AS.mk [(29,.lB 142 [.ptr [ai (i:Int)] 0,.ptr [aw seed] 0]),(10,.addr 10 0),(9,ai 0),(8,.addr 8 0),(6,.addr 6 0),(5,.addr 5 0),(0,aw seed),(3,aw m)] [(5,⟨1,false,true,[ai (i:Int)]⟩),(6,⟨1,false,true,[ai (leaf:Int)]⟩),(8,⟨1,false,true,[ai 0,.nil,.nil]⟩),(10,⟨1,false,true,[ai (leaf:Int),.sl 1 (ah (bT seed leaf m 18)),.ref 49]⟩),(49,⟨1,true,false,ah (dh seed leaf (min (i+1) i))⟩)]) bD ?_
   rw [show min (i+1) i=i by omega]
   refine bf.pG 1 [{}] [.aa [9,29,10,8,6,5,0,3] [8,5,6,10,49]] bD (s':=AS.mk [(9,ai 0),(29,AV.lB 142 [AV.ptr [ai ↑i] 0,AV.ptr [aw seed] 0]),(10,AV.addr 10 0),(8,AV.addr 8 0),(6,AV.addr 6 0),(5,AV.addr 5 0),(0,aw seed),(3,aw m)] [(8,Row.mk 1 false true [ai ↑leaf,AV.sl 1 (ah (bT seed (↑leaf:Int) m 18)),AV.ref 49]),(5,Row.mk 1 false true [ai ↑i]),(6,Row.mk 1 false true [ai ↑leaf]),(10,Row.mk 1 false true [ai ↑leaf,AV.sl 1 (ah (bT seed (↑leaf:Int) m 18)),AV.ref 49]),(49,Row.mk 1 true false (ah (dh seed leaf i)))]) (C:=[3≤3]) bD ⟨aj,trivial⟩<|zR (bU)
  ·have Ay:i≤4:=aj
   have hs:=vW leaf i Ay
   have hle:leaf/2^i≤leaf:=Nat.div_le_self ..
   have hq:leaf/2^i<16:=aj
   have hx:=Ds _ hq
   have em:2^(h-i)=2*2^(h-(i+1)):=by rw [show h-i=h-(i+1)+1 by omega,Nat.pow_succ,Nat.mul_comm]
   have Up:2^(h-(i+1))≤8:=Nat.le_trans (Nat.pow_le_pow_right (by decide) (by omega:h-(i+1)≤3)) (by decide)
   have hdiv:leaf/2^i<2^(h-i):=by
    rw [Nat.div_lt_iff_lt_mul (Nat.two_pow_pos _),←Nat.pow_add,show h-i+i=h by omega];exact hl
   have F7:leaf/2^i^^^1<2^(h-i):=by rw [em];exact Gj _ _ Up aj
   have gT:=pU seed h i _ F7
   have sQ:=pT seed h i
   have ep:=tR seed leaf i
   have oG:=qM seed leaf i
   have Ch:min (i+1) h=i+1:=aj
   generalize leaf/2^i^^^1=x at *
   generalize leaf/2^i=q at *
   generalize kE seed h i=L at *
   generalize 2^(h-i)=c at *
   refine a7<|zX ({hs:=[(5,yV (ai ↑q)),(6,yV (ai ↑x)),(7,{k:=x}),(8,yV (aw (L.getD x 0))),(9,yV (AV.arr (ah [L.getD x 0]))),(10,yV (AV.arr (ah (dh seed leaf i++ [L.getD x 0]))))],T:=10}) [yI (yc hs),yO ((0:Int)≤(↑i:Int)),yI (yc hx),yR (↑x:Int),yB (x<(ah L).length) (by simp only [aB];omega),yB ((ah L)[x]?=some (aw (L.getD x 0))) (dB aj),yR [aw (L.getD x 0)],yB (ah (dh seed leaf i)++ah [L.getD x 0]=ah (dh seed leaf i++ [L.getD x 0])) (ja _ _),yB (((ah (dh seed leaf i)).length+1)*8≤140737488355328) (by simp only [aB];omega),yL 3 3]<|aL ?_
   exact bR.of [.sm 45 49,.aa [] [1000000000005,1000000000006,1000000000008,1000000000010,49]] (s1:=AS.mk [] [(1000000000005,⟨1,false,true,[ai (h:Int)]⟩),(1000000000006,⟨1,false,true,[ai (leaf:Int)]⟩),(1000000000008,⟨1,false,true,[ai 0,.nil,.nil]⟩),(1000000000010,⟨1,false,true,[ai (leaf:Int),.val v,.ref 49]⟩),(49,⟨1,true,false,ah (dh seed leaf i++ [L.getD x 0])⟩)]) bD (by unfold qF;rw [Ch,ep,gT];rfl)
 ·obtain ⟨v,rfl⟩:=List.length_eq_one_iff.1 hv
  exact zj seed h leaf m _ (h+1) v
 ·refine aL (ak ?_)
  refine bf.QD (AS.mk [(29,.lB 142 [.ptr [ai (h:Int)] 0,.ptr [aw seed] 0]),(10,.addr 10 0),(9,ai 0),(8,.addr 8 0),(6,.addr 6 0),(5,.addr 5 0),(0,aw seed),(3,aw m)] [(5,⟨1,false,true,[ai (h:Int)]⟩),(6,⟨1,false,true,[ai (leaf:Int)]⟩),(8,⟨1,false,true,[ai 0,.nil,.nil]⟩),(10,⟨1,false,true,[ai (leaf:Int),.sl 1 (ah (bT seed leaf m 18)),.ref 49]⟩),(49,⟨1,true,false,ah (dh seed leaf (min (h+1) h))⟩)]) bD ?_
  rw [show min (h+1) h=h by omega]
  refine zP 1 [{}] [.aa [9,29,10,8,6,5,0,3] [8,5,6,10,49]] [yL 3 3]<|zR (bU)
theorem GF (seed:UInt64) (h leaf:Int) (m:UInt64):bK Tryz.prog 51 [aw seed,ai h,ai leaf,aw m] (.br [.agg [ai (oM h leaf),.sl 1 (ah (oi seed h leaf m)),.own 1 (ah (oh seed h leaf))],ai (vX h leaf)]):=by
 by_cases eU:i3 h leaf
 ·have e1:vX h leaf=9:=if_pos eU
  have e2:oM h leaf=0:=if_pos eU
  have e3:oi seed h leaf m= []:=if_pos eU
  have e4:oh seed h leaf= []:=if_pos eU
  rw [e1,e2,e3,e4]
  exact GG seed h leaf m eU
 ·have e1:vX h leaf=0:=if_neg eU
  have e2:oM h leaf=leaf:=if_neg eU
  have e3:oi seed h leaf m=bT seed leaf m 18:=if_neg eU
  have e4:oh seed h leaf=dh seed leaf.toNat h.toNat:=if_neg eU
  rw [e1,e2,e3,e4]
  unfold i3 bz at eU
  have q7:0≤h∧h≤4∧0≤leaf:=aj
  obtain ⟨k,rfl⟩:=Int.eq_ofNat_of_zero_le q7.1
  obtain ⟨i,rfl⟩:=Int.eq_ofNat_of_zero_le q7.2.2
  rw [Int.toNat_natCast,Int.toNat_natCast]
  rw [Int.toNat_natCast] at eU
  exact JW seed k i m aj aj
def dn (leaf:Nat) (P:List UInt64) (x:UInt64):Nat->UInt64
 | 0=>x
 | k+1=>if leaf/2^k%2=0 then gO ((k+1:Nat):Int) (dn leaf P x k) (P.getD k 0) else gO ((k+1:Nat):Int) (P.getD k 0) (dn leaf P x k)
def kp (h:Int) (r m:UInt64) (leaf:Int) (C P:List UInt64):Int :=
 if i3 h leaf then 9 else if C.length≠18∨(P.length:Int)≠h then 4 else if dn leaf.toNat P (combine leaf (cM leaf m C 18)) h.toNat=r then 0 else 15
theorem EA (q:Nat) (hq:q<16):IntKind.i64.wrap ((BitVec.ofInt IntKind.i64.bits (q:Int)&&&BitVec.ofInt IntKind.i64.bits 1).toNat:Nat)=((q%2:Nat):Int):=by
 have key:∀q:Fin 16,IntKind.i64.wrap ((BitVec.ofInt IntKind.i64.bits ((q.val:Nat):Int)&&&BitVec.ofInt IntKind.i64.bits 1).toNat:Nat)=((q.val%2:Nat):Int):=by decide +kernel
 exact key ⟨q,hq⟩
theorem Bz (h:Int) (r m:UInt64) (leaf:Int) (C P:List UInt64):bK Tryz.prog 104 [.agg [ai h,aw r],aw m,.agg [ai leaf,.sl 1 (ah C),.sl 1 (ah P)]] (ai (kp h r m leaf C P)):=by
 by_cases eU:i3 h leaf
 ·have e1:kp h r m leaf C P=9:=if_pos eU
  rw [e1]
  unfold i3 at eU
  by_cases hb:bz h
  ·refine zO Tryz.func104 74<|zq<|zS<|zP 1 [yH [(2,yV (ao (decide (bz h))))]] [.aa [20,6,5,3,0,1,2] [5,3]] ([yI (g_ h)]++yM 6 (yT (bz h)))<|zT 20<|zq<|dt (bU)
  have q7:0≤h∧h≤4:=by unfold bz at hb;omega
  obtain ⟨k,rfl⟩:=Int.eq_ofNat_of_zero_le q7.1
  rw [Int.toNat_natCast] at eU
  have ho:leaf<0∨((2^k:Nat):Int)≤leaf:=eU.resolve_left hb
  have hk:k≤4:=aj
  refine zO Tryz.func104 74<|zq<|zS<|zP 1 [yH ([(2,yV (ao (decide (bz (↑k:Int))))),(8,{av:=some (ao (decide (leaf<0∨(↑((2:Nat)^k):Int)≤leaf))),g:=false}),(9,{b:=false})]++yg [4,5,6,7])] [.aa [20,6,5,3,0,1,2] [5,3]] ([yI (g_ ((↑k:Int)))]++yM 5 (yF (bz (↑k:Int)))++ [yI (iA leaf k hk),yF (bz (↑k:Int))])<|ib 20 (leaf<0∨(↑((2:Nat)^k):Int)≤leaf)<|zq<|dt (bU)
 have hv:kp h r m leaf C P=if C.length≠18∨(P.length:Int)≠h then 4 else if dn leaf.toNat P (combine leaf (cM leaf m C 18)) h.toNat=r then 0 else 15:=if_neg eU
 unfold i3 bz at eU
 have q7:0≤h∧h≤4∧0≤leaf:=aj
 obtain ⟨k,rfl⟩:=Int.eq_ofNat_of_zero_le q7.1
 obtain ⟨i,rfl⟩:=Int.eq_ofNat_of_zero_le q7.2.2
 rw [Int.toNat_natCast] at eU
 rw [Int.toNat_natCast,Int.toNat_natCast] at hv
 have hk:k≤4:=aj
 have hb:¬bz (k:Int):=by unfold bz;omega
 have ho:¬((i:Int)<0∨((2^k:Nat):Int)≤i):=aj
 have hp:2^k≤16:=Nat.pow_le_pow_right (by decide) hk
 rw [hv]
 by_cases hC:C.length=18
 case neg =>
  rw [if_pos (.inl hC)]
  refine zO Tryz.func104 74<|zq<|zS<|zP 1 [yH ([(2,yV (ao (decide (bz (↑k:Int))))),(8,{av:=some (ao (decide ((↑i:Int)<0∨(↑((2:Nat)^k):Int)≤(↑i:Int)))),g:=false}),(9,{b:=false})]++yg [4,5,6,7])] [.aa [20,6,5,3,0,1,2] [5,3]] ([yI (g_ ((↑k:Int)))]++yM 5 (yF (bz (↑k:Int)))++ [yI (iA ((↑i:Int)) k hk),yF (bz (↑k:Int))])<|dp 20 ((↑i:Int)<0∨(↑((2:Nat)^k):Int)≤(↑i:Int))<|a7<|zS<|zP 1 [yH [(2,{k:=C.length})]] [.aa [32,20,6,5,3,0,1,2] [5,3]] ([yI (aB C)]++yM 7 (yB (((↑C.length:Int) != (18:Int))=true) (by simp;omega)))<|zT 32<|zq<|dt (bU)
 by_cases hP:P.length=k
 case neg =>
  rw [if_pos (.inr aj)]
  refine zO Tryz.func104 74<|zq<|zS<|zP 1 [yH ([(2,yV (ao (decide (bz (↑k:Int))))),(8,{av:=some (ao (decide ((↑i:Int)<0∨(↑((2:Nat)^k):Int)≤(↑i:Int)))),g:=false}),(9,{b:=false})]++yg [4,5,6,7])] [.aa [20,6,5,3,0,1,2] [5,3]] ([yI (g_ ((↑k:Int)))]++yM 5 (yF (bz (↑k:Int)))++ [yI (iA ((↑i:Int)) k hk),yF (bz (↑k:Int))])<|dp 20 ((↑i:Int)<0∨(↑((2:Nat)^k):Int)≤(↑i:Int))<|a7<|zS<|zP 1 [yH ([(2,{k:=C.length}),(7,{k:=P.length,g:=false}),(11,{b:=false})]++yg [5,6,8,9,10])] [.aa [32,20,6,5,3,0,1,2] [5,3]] ([yI (aB C)]++yM 3 (yS (((↑C.length:Int) != (18:Int))=false))++ [yI (aB P)]++yM 4 (yS (((↑C.length:Int) != (18:Int))=false)))<|dr 32 ((↑P.length:Int) != (↑k:Int)) (by simp;omega)<|zq<|dt (bU)
 rw [if_neg aj]
 have hr:om i m C=combine i (cM i m C 18):=if_pos hC
 have he:ll C=0:=if_pos hC
 refine zO Tryz.func104 74<|zq<|zS<|zP 1 [yH ([(2,yV (ao (decide (bz (↑k:Int))))),(8,{av:=some (ao (decide ((↑i:Int)<0∨(↑((2:Nat)^k):Int)≤(↑i:Int)))),g:=false}),(9,{b:=false})]++yg [4,5,6,7])] [.aa [20,6,5,3,0,1,2] [5,3]] ([yI (g_ ((↑k:Int)))]++yM 5 (yF (bz (↑k:Int)))++ [yI (iA ((↑i:Int)) k hk),yF (bz (↑k:Int))])<|dp 20 ((↑i:Int)<0∨(↑((2:Nat)^k):Int)≤(↑i:Int))<|a7<|zS<|zP 1 [yH ([(2,{k:=C.length}),(7,{k:=P.length,g:=false}),(11,{b:=false})]++yg [5,6,8,9,10])] [.aa [32,20,6,5,3,0,1,2] [5,3]] ([yI (aB C)]++yM 3 (yS (((↑C.length:Int) != (18:Int))=false))++ [yI (aB P)]++yM 4 (yS (((↑C.length:Int) != (18:Int))=false)))<|bj 32 ((↑P.length:Int) != (↑k:Int)) (by simp_all)<|a7<|zP 1 [yH [(5,yV (AV.br [aw (om (↑i:Int) m C),ai (ll C)]))]] [.aa [8,7,32,20,6,5,3,0,1,2] [5,3]] [yI (z7 ((↑i:Int)) m C)]<|zS<|zq<|bj 43 (ll C != (0:Int)) (by simp_all)<|a7<|zS<|zP 1 [yH [(2,{k:=P.length})]] [.aa [48,47,46,43,8,7,32,20,6,5,3,0,1,2] [5,3]] [yI (aB P)]<|zB 0 (zL (fun (j:Nat)=>(⟨[(47,ai (↑P.length:Int)),(46,AV.sl 1 (ah P)),(43,ao (ll C != (0:Int))),(8,ai (ll C)),(32,ao ((↑P.length:Int) != (↑k:Int))),(20,ao (decide ((↑i:Int)<0∨(↑((2:Nat)^k):Int)≤(↑i:Int)))),(6,ai 0),(5,AV.addr 5 0),(3,AV.addr 3 0),(0,AV.agg [ai ↑k,aw r]),(1,aw m),(2,AV.agg [ai ↑i,AV.sl 1 (ah C),AV.sl 1 (ah P)]),(48,ai j),(7,aw (dn i P (combine i (cM i m C 18)) j))],[(5,⟨1,false,true,[ai ↑i,AV.sl 1 (ah C),AV.sl 1 (ah P)]⟩),(3,⟨1,false,true,[ai ↑k,aw r]⟩)]⟩:AS)) (fun j=>(j≤k)) (fun j=>(k-j)) (0) ?_ (eJ [.aa [47,46,43,8,32,20,6,5,3,0,1,2,48,7] [5,3]] [7] [] [yB (aw (om (↑i:Int) m C)=aw (dn i P (combine (↑i:Int) (cM (↑i:Int) m C 18)) 0)) (congrArg aw hr)]) ?_)
 ·omega
 intro j hj
 refine bf.na 1 [{}] bD (s':=AS.mk [(49,ao (decide ((↑j:Int)<(↑P.length:Int)))),(47,ai (↑P.length:Int)),(46,AV.sl 1 (ah P)),(43,ao (ll C != (0:Int))),(8,ai (ll C)),(32,ao ((↑P.length:Int) != (↑k:Int))),(20,ao (decide ((↑i:Int)<0∨(↑((2:Nat)^k):Int)≤(↑i:Int)))),(6,ai 0),(5,AV.addr 5 0),(3,AV.addr 3 0),(0,AV.agg [ai ↑k,aw r]),(1,aw m),(2,AV.agg [ai ↑i,AV.sl 1 (ah C),AV.sl 1 (ah P)]),(48,ai ↑j),(7,aw (dn i P (combine (↑i:Int) (cM (↑i:Int) m C 18)) j))] [(5,Row.mk 1 false true [ai ↑i,AV.sl 1 (ah C),AV.sl 1 (ah P)]),(3,Row.mk 1 false true [ai ↑k,aw r])]) (C:=[]) bD trivial<|zS (zD 49 ((↑j:Int)<(↑P.length:Int)) (fun g=>?_) (fun g=>?_))
 ·have hs:=vW i j aj
  have hle:i/2^j≤i:=Nat.div_le_self ..
  have hq:i/2^j<16:=aj
  have ha:=EA _ hq
  have Mw:(0:Int)≤wv (u64 (j:Int)):=Int.natCast_nonneg _
  have Rp:IntKind.i64.wrap ((j:Int)+1)=((j+1:Nat):Int):=by rw [eY aj aj];omega
  have hc:dn i P (combine i (cM i m C 18)) (j+1)=if i/2^j%2=0 then gO ((j+1:Nat):Int) (dn i P (combine i (cM i m C 18)) j) (P.getD j 0) else gO ((j+1:Nat):Int) (P.getD j 0) (dn i P (combine i (cM i m C 18)) j):=rfl
  generalize i/2^j=q at *
  generalize hx:dn i P (combine i (cM i m C 18)) j=x at *
  by_cases h2:q%2=0
  ·rw [if_pos h2] at hc
   generalize q%2=q2 at *
   refine a7<|zS<|zB 1<|zP 2 [yH [(1,{k:=j}),(2,yV (aw (P.getD j 0)))],yH [(3,yV (ai ↑q)),(4,yV (ai ↑q2))]] [.aa [58,10,9,49,47,46,43,8,32,20,6,5,3,0,1,2,48,7] [5,3]] [yR (↑j:Int),yB (j<(ah P).length) (by simp only [aB];omega),yB ((ah P)[j]?=some (aw (P.getD j 0))) (dB aj),yI (yc hs),yO ((0:Int)≤(↑j:Int)),yI (yc ha)]<|dr 58 ((↑q2:Int) == (0:Int)) fi<|zX (yH [(1,yV (ai (↑(j+1):Int))),(4,yV (aw (gO (↑(j+1):Int) x (P.getD j 0))))]) [yB (ai (IntKind.i64.wrap ((↑j:Int)+1))=ai (↑(j+1):Int)) (d_ aj aj),yI (oX (↑(j+1):Int) x (P.getD j 0))]<|aL<|ak<|bf.OA {hs:=[(0,{av:=some (ai ((↑j:Int)+1))})]} (s':=AS.mk [(48,ai ((↑j:Int)+1)),(69,ai ((↑j:Int)+1)),(7,aw (gO (↑(j+1):Int) x (P.getD j 0))),(63,aw (gO (↑(j+1):Int) x (P.getD j 0))),(62,aw (P.getD j 0)),(61,aw x),(60,ai (↑(j+1):Int)),(59,ai ↑j),(58,ao ((↑q2:Int) == (0:Int))),(10,aw (P.getD j 0)),(9,ai ↑j),(49,ao (decide ((↑j:Int)<(↑P.length:Int)))),(47,ai (↑P.length:Int)),(46,AV.sl 1 (ah P)),(43,ao (ll C != (0:Int))),(8,ai (ll C)),(32,ao ((↑P.length:Int) != (↑k:Int))),(20,ao (decide ((↑i:Int)<0∨(↑((2:Nat)^k):Int)≤(↑i:Int)))),(6,ai 0),(5,AV.addr 5 0),(3,AV.addr 3 0),(0,AV.agg [ai ↑k,aw r]),(1,aw m),(2,AV.agg [ai ↑i,AV.sl 1 (ah C),AV.sl 1 (ah P)])] [(5,Row.mk 1 false true [ai ↑i,AV.sl 1 (ah C),AV.sl 1 (ah P)]),(3,Row.mk 1 false true [ai ↑k,aw r])]) (C:=[ai (IntKind.i64.wrap ((↑j:Int)+1))=ai ((↑j:Int)+1)]) bD ⟨(d_ aj aj),trivial⟩ (aH (j+1) aj aj (eJ [.aa [47,46,43,8,32,20,6,5,3,0,1,2,48,7] [5,3]] [7] [] [yB (aw (gO (↑(j+1):Int) x (P.getD j 0))=aw (dn i P (combine (↑i:Int) (cM (↑i:Int) m C 18)) (j+1))) (by rw [hc])]))
  ·rw [if_neg h2] at hc
   generalize q%2=q2 at *
   refine a7<|zS<|zB 1<|zP 2 [yH [(1,{k:=j}),(2,yV (aw (P.getD j 0)))],yH [(3,yV (ai ↑q)),(4,yV (ai ↑q2))]] [.aa [58,10,9,49,47,46,43,8,32,20,6,5,3,0,1,2,48,7] [5,3]] [yR (↑j:Int),yB (j<(ah P).length) (by simp only [aB];omega),yB ((ah P)[j]?=some (aw (P.getD j 0))) (dB aj),yI (yc hs),yO ((0:Int)≤(↑j:Int)),yI (yc ha)]<|bj 58 ((↑q2:Int) == (0:Int)) bE<|zX (yH [(1,yV (ai (↑(j+1):Int))),(4,yV (aw (gO (↑(j+1):Int) (P.getD j 0) x)))]) [yB (ai (IntKind.i64.wrap ((↑j:Int)+1))=ai (↑(j+1):Int)) (d_ aj aj),yI (oX (↑(j+1):Int) (P.getD j 0) x)]<|aL<|ak<|zX (yH [(0,yV (ai ((↑j:Int)+1)))]) [yN ((↑j:Int)+1)] (aH (j+1) aj aj (eJ [.aa [47,46,43,8,32,20,6,5,3,0,1,2,48,7] [5,3]] [7] [] [yB (aw (gO (↑(j+1):Int) (P.getD j 0) x)=aw (dn i P (combine (↑i:Int) (cM (↑i:Int) m C 18)) (j+1))) (by rw [hc])]))
 ·have e:j=k:=aj
  subst e
  by_cases j8:dn i P (combine i (cM i m C 18)) j=r
  ·rw [if_pos j8]
   refine zE 0<|a_<|aP<|bo<|ak<|zS<|zP 1 [yH [(3,yV (ao (dn i P (combine (↑i:Int) (cM (↑i:Int) m C 18)) j != r)))]] [.aa [73,49,47,46,43,8,32,20,6,5,3,0,1,2,48,7] [5,3]] [yI (cI (dn i P (combine (↑i:Int) (cM (↑i:Int) m C 18)) j) r)]<|bj 73 (dn i P (combine (↑i:Int) (cM (↑i:Int) m C 18)) j != r) (by simp_all)<|a7<|zq<|zR (bU)
  ·rw [if_neg j8]
   refine zE 0<|a_<|aP<|bo<|ak<|zS<|zP 1 [yH [(3,yV (ao (dn i P (combine (↑i:Int) (cM (↑i:Int) m C 18)) j != r)))]] [.aa [73,49,47,46,43,8,32,20,6,5,3,0,1,2,48,7] [5,3]] [yI (cI (dn i P (combine (↑i:Int) (cM (↑i:Int) m C 18)) j) r)]<|dr 73 (dn i P (combine (↑i:Int) (cM (↑i:Int) m C 18)) j != r) (by simp_all)<|zq<|dt (bU)
instance:Inhabited gA:=⟨⟨[],0,[],[]⟩⟩
def NJ (a b:List UInt8):Bool:=Op.bytesLess (⟨a.toArray⟩:ByteArray).toList (⟨b.toArray⟩:ByteArray).toList
def gy (leaf:Int):UInt64:=(1:UInt64)<<<UInt64.ofNat leaf.toNat
def Kg (l:List Mem) (n:List UInt8):Mem:=l.getD (dC l n).toNat default
def jR (g:gB) (w:UInt64) (l:List gA) (i:Nat):Int :=
 if 0<i∧Fa (l.getD i default).name (l.getD (i-1) default).name=true then 7 else if dC g.al (l.getD i default).name<0 then 11
 else if kp (Kg g.al (l.getD i default).name).h (Kg g.al (l.getD i default).name).r w (l.getD i default).leaf (l.getD i default).fU (l.getD i default).path≠0 then kp (Kg g.al (l.getD i default).name).h (Kg g.al (l.getD i default).name).r w (l.getD i default).leaf (l.getD i default).fU (l.getD i default).path
 else if (Kg g.al (l.getD i default).name).used&&&gy (l.getD i default).leaf≠0 then 37 else 0
def fv (g:gB) (w:UInt64) (l:List gA):Int:=if ff (jR g w l) l.length≠0 then ff (jR g w l) l.length else if (l.length:Int)<g.bt then 41 else 0
def pb (l:List Mem) (k:Nat):List Mem:=l.take k++l.drop (k+1)
def sv (g:gB) (l:List (List UInt8)) (i:Nat):Int:=if dC g.al (l.getD i default)<0 then 11 else 0
def gK (g:gB) (e:fo):Int :=
 if e.kind=1 then (if 0≤dC g.al e.name then 10 else if 8≤g.al.length then 12 else 0)
 else if e.kind=2 then (if dC g.al e.name<0 then 11 else if (g.al.length:Int)-1<g.bt then 41 else 0)
 else if e.kind=3 then (if (g.al.length:Int)<e.bt∨2*e.bt≤g.al.length then 41 else 0)
 else if e.kind=4 then (if 8≤g.aJ.length then 12 else if vi g.aJ e.dep.bF<g.aJ.length then 10 else ff (sv g e.dep.ae) e.dep.ae.length)
 else if vi g.aJ e.bF=g.aJ.length then 11 else if (g.aJ.getD (vi g.aJ e.bF) default).target≠0 then 18 else 0
def tG (l:List mU) (k:Nat) (t:UInt64):List mU:=l.set k {l.getD k default with target:=t}
def cP (g:gB) (e:fo):gB :=
 if gK g e≠0 then g else if e.kind=1 then {g with bt:=if 2*g.bt≤g.al.length+1 then g.bt+1 else g.bt,al:=g.al++ [⟨e.name,e.kh,e.kr,0⟩]}
 else if e.kind=2 then {g with al:=pb g.al (dC g.al e.name).toNat} else if e.kind=3 then {g with bt:=e.bt}
 else if e.kind=4 then {g with aJ:=g.aJ++ [e.dep]} else {g with aJ:=tG g.aJ (vi g.aJ e.bF) e.target}
def pA (l:List Mem) (v:gA):List Mem:=if dC l v.name<0 then l else l.set (dC l v.name).toNat {Kg l v.name with used:=(Kg l v.name).used|||gy v.leaf}
def jY (l:List Mem) (vs:List gA):List Mem:=vs.foldl pA l
def fI (g:gB) (e:fo):Int:=if eh e≠0 then eh e else if e.aA≠g.aA+1∨e.prev≠g.head then 42 else if fv g (de e) e.aq≠0 then fv g (de e) e.aq else gK g e
def kQ (g:gB) (e:fo):gB:=if fI g e≠0 then g else ⟨e.aA,de e,(cP g e).bt,jY (cP g e).al e.aq,(cP g e).aJ⟩
def Ac (l:List gA) (n:List UInt8):Nat:=(l.takeWhile fun v=>NJ v.name n).length
def IY (l:List gA) (n:List UInt8):Bool:=l.any fun v=>v.name == n
def og (e:fo) (n:List UInt8) (h leaf:Int):Int:=if eh e≠0 then eh e else if IY e.aq n=true then 10 else vX h leaf
def Aq (l:List gA) (v:gA):List gA:=l.take (Ac l v.name)++ [v]++l.drop (Ac l v.name)
def tn (e:fo) (n:List UInt8) (seed:UInt64) (h leaf:Int):fo :=
 if og e n h leaf≠0 then ⟨0,0,0,[],0,0,0,⟨0,0,[],[],[],0,0⟩,0,0,[]⟩ else {e with aq:=Aq e.aq ⟨n,oM h leaf,oi seed h leaf (de e),oh seed h leaf⟩}
theorem tp {h:Int} {r m:UInt64} {leaf:Int} {C P:List UInt64} (e:kp h r m leaf C P=0):0≤leaf∧leaf<16:=by
 have nb:¬i3 h leaf:=by
  intro q
  unfold kp at e
  rw [if_pos q] at e;omega
 unfold i3 bz at nb
 have:2^h.toNat≤2^4:=Nat.pow_le_pow_right (by decide) aj
 omega
theorem Nw (u:UInt64) (n:Nat) (h:n<64):((u>>>UInt64.ofNat n)&&&1=1)↔u&&&((1:UInt64)<<<UInt64.ofNat n)≠0:=by
 have hn:(UInt64.ofNat n).toNat%64=n:=by rw [UInt64.toNat_ofNat_of_lt' (by show n<2^64;omega)];omega
 have h1:((u>>>UInt64.ofNat n)&&&1=1)↔u.toNat.testBit n=true:=by
  rw [←UInt64.toNat_inj,UInt64.toNat_and,UInt64.toNat_shiftRight,hn]
  show (u.toNat>>>n)&&&1=1↔_
  rw [Nat.and_one_is_mod,Nat.testBit]
  simp [Nat.one_and_eq_mod_two]
 have h2:u&&&((1:UInt64)<<<UInt64.ofNat n)=0↔u.toNat.testBit n=false:=by
  rw [←UInt64.toNat_inj,UInt64.toNat_and,UInt64.toNat_shiftLeft,hn]
  show u.toNat&&&((1<<<n)%2^64)=0↔_
  rw [Nat.mod_eq_of_lt (by rw [Nat.one_shiftLeft];exact Nat.pow_lt_pow_right (by decide) h),Nat.one_shiftLeft]
  constructor
  ·intro q
   cases hb:u.toNat.testBit n with
   | false=>rfl
   | true =>
    have:=congrArg (fun x=>x.testBit n) q
    simp [Nat.testBit_and,hb,Nat.testBit_two_pow_self] at this
  ·intro q
   refine Nat.eq_of_testBit_eq fun i=>?_
   rw [Nat.testBit_and,Nat.testBit_two_pow,Nat.zero_testBit]
   by_cases e:n=i
   ·subst e;rw [q];rfl
   ·simp [e]
 rw [h1,ne_eq,h2]
 cases u.toNat.testBit n<;>simp
theorem gG (l:List Mem) (n:List UInt8):dC l n= -1∨ ∃k:Nat,dC l n=k∧k<l.length∧(l.getD k default).name=n:=by
 unfold dC
 split
 ·rename_i h
  obtain ⟨m,hm,e⟩:=h
  have dd:=List.findIdx_lt_length_of_exists (p:=fun m:Mem=>m.name == n) ⟨m,hm,by simp [e]⟩
  refine .inr ⟨_,rfl,dd,?_⟩
  have:=List.findIdx_getElem (p:=fun m:Mem=>m.name == n) (w:=dd)
  rw [List.getD_eq_getElem?_getD,List.getElem?_eq_getElem dd]
  simpa using this
 ·exact .inl rfl
def JU (es:List (Nat×Nat)) (j:Nat):AV->AV
 | .nil=>(match look es j with|some e=>.sl e []|none=>.nil)
 | x=>x
theorem JT (es:List (Nat×Nat)) (j:Nat) (x:AV):JU es j x=x∨x= .nil∧ ∃e,JU es j x= .sl e []:=by
 cases x with
 | nil =>
  cases h:look es j with
  | none=>exact .inl (by show (match look es j with|some e=>AV.sl e []|none=>.nil)=_;rw [h])
  | some e=>exact .inr ⟨rfl,e,by show (match look es j with|some e=>AV.sl e []|none=>.nil)=_;rw [h]⟩
 | _=>exact .inl rfl
def JV (es:List (Nat×Nat)):List AV->Nat->List AV
 | [],_=>[]
 | x::l,j=>JU es j x::JV es l (j+1)
def Qc (es:List (Nat×Nat)):AV->AV
 | .agg cs=>.agg (JV es cs 0)
 | x=>x
theorem w7 (es:List (Nat×Nat)):∀(l:List AV) (j:Nat),(JV es l j).length=l.length
 | [],_=>rfl
 | _::l,j=>congrArg (· +1) (w7 es l (j+1))
theorem BF (es:List (Nat×Nat)):∀(l:List AV) (j i:Nat) (y:AV),(JV es l j)[i]?=some y-> ∃x,l[i]?=some x∧(y=x∨x= .nil∧ ∃e,y= .sl e [])
 | [],_,_,_,h=>by cases h
 | x::l,j,0,y,h=>by
  have h:some (JU es j x)=some y:=h
  injection h with h
  subst h
  exact ⟨x,rfl,JT es j x⟩
 | x::l,j,i+1,y,h=>BF es l (j+1) i y h
theorem cA.Qc (es:List (Nat×Nat)) {S:Nat->Prop} {w:World} {v:Value} {x:AV} (h:cA S w v x):cA S w v (Qc es x):=by
 cases h with
 | agg vs cs hl h =>
  refine .agg vs _ (by rw [hl,w7]) fun j v c hv hc=>?_
  obtain ⟨x,hx,e⟩:=BF es cs 0 j c hc
  have hr:=h j v x hv hx
  rcases e with rfl|⟨rfl,e,rfl⟩
  ·exact hr
  ·cases hr;exact iL none 0 0 e (by simp) (Nat.le_refl _) (by simp)
 | nil=>exact .nil
 | val v=>exact .val v
 | br vs cs hl h=>exact .br vs cs hl h
 | arr vs cs hl h=>exact .arr vs cs hl h
 | sl A n c e us row hl hn hc hm ha h=>exact .sl A n c e us row hl hn hc hm ha h
 | pt A n e us row hl hn hm ha h=>exact .pt A n e us row hl hn hm ha h
 | ptr ad us row off hl hs ha h=>exact .ptr ad us row off hl hs ha h
 | lB f vs cs hl h=>exact .lB f vs cs hl h
theorem bK.Hj (es:List (Nat×Nat)) {P:Program} {f:FuncId} {args:List AV} {r:AV} (h:bK P f (args.map (Qc es)) r):bK P f args r:=by
 intro w S vs jU hS hv hr
 refine h w S vs jU hS (by rw [List.length_map];exact hv) fun j v y T5 hy=>?_
 rw [List.getElem?_map] at hy
 cases hx:args[j]? with
 | none=>rw [hx] at hy;cases hy
 | some x=>rw [hx] at hy;cases hy;exact (hr j v x T5 hx).Qc es
theorem bR.QV {s:AS} (id:Nat) (es:List (Nat×Nat)) {r:Row} (hr:look s.H id=some r):bR s ⟨s.F,(id,⟨r.e,r.pure,r.full,JV es r.cells 0⟩)::cN s.H id⟩:=by
 intro S0 w0 n a w ⟨φ,hs⟩
 have hl:=w7 es r.cells 0
 have hI:az ((id,(⟨r.e,r.pure,r.full,JV es r.cells 0⟩:Row))::cN s.H id) φ=az s.H φ:=by
  funext i
  unfold az
  rw [aD]
  by_cases e1:id=i
  ·subst e1;rw [if_pos rfl,hr];show some (r.e,(JV es r.cells 0).length,φ id)=_;rw [hl];rfl
  ·rw [if_neg e1,bH,if_neg e1]
 refine ⟨φ,hs.jL,hs.jO,hs.cV,fun i av hi=>by rw [hI];exact hs.cB i av hi,fun i q hq=>?_,fun i hi=>?_,hs.inj,hs.cU,hs.apart,hs.new⟩
 ·rw [hI]
  rw [aD] at hq
  by_cases e1:id=i
  ·subst e1
   rw [if_pos rfl] at hq;injection hq with hq;subst hq
   have aN:=hs.rows id r hr
   unfold bN at aN ⊢
   cases hg:φ id with
   | none=>rw [hg] at aN;exact List.eq_nil_of_length_eq_zero (by rw [hl,aN];rfl)
   | some g =>
    rw [hg] at aN
    obtain ⟨cur,te,fr,u1,u2,u3,u4,u5⟩:=aN
    refine ⟨cur,te,fr,u1,u2,by rw [hl];exact u3,fun h=>by rw [hl];exact u4 h,fun k u x hu hx=>?_⟩
    obtain ⟨y,hy,e⟩:=BF es r.cells 0 k x hx
    have:=u5 k u y hu hy
    unfold bh at this ⊢
    rcases e with rfl|⟨rfl,e2,rfl⟩
    ·exact this
    ·have hv:u= .slice none 0 0:=by
      cases hp:r.pure with
      | true=>rw [hp] at this;cases this;rfl
      | false =>
       rw [hp] at this
       have this:Den _ _ _ u .nil:=this
       cases this with
       | rep h=>cases h;rfl
     subst hv
     show match r.pure with|true=>cA _ _ _ _|false=>Den _ _ _ _ _
     cases r.pure with
     | true=>exact iL none 0 0 e2 (by simp) (Nat.le_refl _) (by simp)
     | false=>exact .rep (iL none 0 0 e2 (by simp) (Nat.le_refl _) (by simp))
  ·rw [if_neg e1,bH,if_neg e1] at hq
   exact hs.rows i q hq
 ·rw [aD] at hi
  by_cases e1:id=i
  ·subst e1;rw [if_pos rfl] at hi;cases hi
  ·rw [if_neg e1,bH,if_neg e1] at hi;exact hs.only i hi
def ES (s:AS) (id:Nat):Row:=match look s.H id with|some r=>r|none=>⟨0,true,false,[]⟩
theorem bR.Mq {s:AS} (id:Nat) (es:List (Nat×Nat)) (hr:look s.H id=some (ES s id)):bR s ⟨s.F,(id,⟨(ES s id).e,(ES s id).pure,(ES s id).full,JV es (ES s id).cells 0⟩)::cN s.H id⟩:=bR.QV id es hr
theorem Ms {ι:Type} {Inv:ι->Prop} {J:ι->AS} {s s1:AS} (hw:bR s s1) (h:∃x,Inv x∧bR s1 (J x)):∃x,Inv x∧bR s (J x):=by
 obtain ⟨x,hx,h⟩:=h
 exact ⟨x,hx,fun S0 w0 n a w hs=>h S0 w0 n a w (hw S0 w0 n a w hs)⟩
end Go.Proofs.YtjgbhhnghedgdaaGreatDoor
