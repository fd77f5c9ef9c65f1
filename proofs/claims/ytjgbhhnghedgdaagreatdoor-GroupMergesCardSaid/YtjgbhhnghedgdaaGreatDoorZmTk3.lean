import Derived.Test.YtjgbhhnghedgdaaGreatDoorZmTk2
set_option linter.all false
namespace Go.Proofs.YtjgbhhnghedgdaaGreatDoor
open Go.RowKit
set_option maxRecDepth 100000
set_option maxHeartbeats 4000000
def dn (seed:UInt64) (leaf:Nat) (n:Nat):List UInt64:=(List.range n).map fun k=>gf seed k (leaf/2^k^^^1)
theorem ur (seed:UInt64) (leaf k:Nat):dn seed leaf (k+1)=dn seed leaf k++ [gf seed k (leaf/2^k^^^1)]:=by simp [dn,List.range_succ]
theorem rj (seed:UInt64) (leaf k:Nat):(dn seed leaf k).length=k:=by simp [dn]
theorem Ar (leaf k:Nat) (hk:k≤4):((leaf:Int)).fdiv (2^min (wv (u64 (k:Int))).toNat IntKind.i64.bits)=((leaf/2^k:Nat):Int):=by
 have e:(2:Int)^min (wv (u64 (k:Int))).toNat IntKind.i64.bits=((2^k:Nat):Int):=by
  rcases (ah:k=0∨k=1∨k=2∨k=3∨k=4) with rfl|rfl|rfl|rfl|rfl<;>decide +kernel
 rw [e,Int.fdiv_eq_ediv_of_nonneg _ (Int.natCast_nonneg _)];rfl
theorem Ei (q:Nat) (hq:q<16):IntKind.i64.wrap ((BitVec.ofInt IntKind.i64.bits (q:Int)^^^BitVec.ofInt IntKind.i64.bits 1).toNat:Nat)=((q^^^1:Nat):Int):=by
 have key:∀q:Fin 16,IntKind.i64.wrap ((BitVec.ofInt IntKind.i64.bits ((q.val:Nat):Int)^^^BitVec.ofInt IntKind.i64.bits 1).toNat:Nat)=((q.val^^^1:Nat):Int):=by decide +kernel
 exact key ⟨q,hq⟩
theorem MH (q:Nat) (hq:q<16):q^^^1<16:=by
 have key:∀q:Fin 16,q.val^^^1<16:=by decide +kernel
 exact key ⟨q,hq⟩
theorem CH (seed:UInt64) (h leaf:Nat) (m:UInt64) (hh:h≤4) (hl:leaf<2^h):bC Tryz.prog 55 [aw seed,ai h,ai leaf,aw m] (.bk [.agg [ai leaf,.own 1 (aj (bW seed leaf m 18)),.own 1 (aj (dn seed leaf h))],ai 0]):=by
 have hb:¬bB (h:Int):=by unfold bB;omega
 have hp:2^h≤16:=Nat.pow_le_pow_right (by decide) hh
 have C8:IntKind.i64.wrap (1*2^min (wv (u64 (h:Int))).toNat IntKind.i64.bits)=((2^h:Nat):Int):=by
  rcases (ah:h=0∨h=1∨h=2∨h=3∨h=4) with rfl|rfl|rfl|rfl|rfl<;>decide +kernel
 have Ko:(0:Int)≤wv (u64 (h:Int)):=Int.natCast_nonneg _
 refine zO Tryz.func55 52<|zq<|zS<|zP 1 [yH ([(1,yV (ao (!decide (bB (↑h:Int))))),(6,{b:=false}),(10,{av:=some (aw (u64 (↑h:Int))),g:=false}),(11,{av:=some (ai (↑((2:Nat)^h):Int)),g:=false}),(13,{b:=false})]++yg [4,5,8,9,12])] [.aa [25,9,8,0,1,2,3] [8]] ([yI (cm ((↑h:Int)))]++yM 3 (yS ((!!decide (bB (↑h:Int)))=false))++yM 3 (yR false)++ [yI (ba ((↑h:Int))),yR false,yI (yc C8),yI Ko,yR false,yR false])<|dq 25 ((↑leaf:Int)≥(↑((2:Nat)^h):Int))<|aW<|zP 1 [yH [(4,yV (AV.own 1 (aj (bW seed (↑leaf:Int) m 18))))]] [.aa [10,25,9,8,0,1,2,3] [10,31,8]] [yI (xV seed ((↑leaf:Int)) m),yB (lr (aj (bW seed (↑leaf:Int) m 18))) (gv _),yL 3 3]<|zS<|zq<|zB 0<|bf.o7 (bU.LX 10 2 49 1 (r:=⟨1,false,true,[ai leaf,.ref 31,.nil]⟩) bt rfl rfl bt) (zL (fun (k:Nat)=>(⟨[(10,AV.addr 10 0),(25,ao (decide ((↑leaf:Int)≥(↑((2:Nat)^h):Int)))),(9,ai 0),(8,AV.addr 8 0),(0,aw seed),(1,ai ↑h),(2,ai ↑leaf),(3,aw m),(11,ai k)],[(8,⟨1,false,true,[ai 0,AV.nil,AV.nil]⟩),(31,⟨1,true,false,aj (bW seed (↑leaf:Int) m 18)⟩),(10,⟨1,false,true,[ai leaf,AV.ref 31,AV.ref 49]⟩),(49,⟨1,true,false,aj (dn seed leaf k)⟩)]⟩:AS)) (fun k=>(k≤h)) (fun k=>(h-k)) (0) ?_ (zW [.aa [10,25,9,8,0,1,2,3,11] [8,31,10,49]]) ?_)
 ·omega
 intro k hk
 refine zS<|bf.jZ 1 [{}] [.aa [35,10,25,9,8,0,1,2,3,11] [8,31,10,49]] bt (s':=AS.mk [(35,ao (decide ((↑k:Int)<(↑h:Int)))),(10,AV.addr 10 0),(25,ao (decide ((↑leaf:Int)≥(↑((2:Nat)^h):Int)))),(9,ai 0),(8,AV.addr 8 0),(0,aw seed),(1,ai ↑h),(2,ai ↑leaf),(3,aw m),(11,ai ↑k)] [(8,Row.mk 1 false true [ai 0,AV.nil,AV.nil]),(31,Row.mk 1 true false (aj (bW seed (↑leaf:Int) m 18))),(10,Row.mk 1 false true [ai ↑leaf,AV.ref 31,AV.ref 49]),(49,Row.mk 1 true false (aj (dn seed leaf k)))]) (C:=[]) bt trivial (zD 35 ((↑k:Int)<(↑h:Int)) (fun g=>?_) (fun g=>?_))
 ·have Br:k≤4:=ah
  have hs:=Ar leaf k Br
  have hle:leaf/2^k≤leaf:=Nat.div_le_self ..
  have hq:leaf/2^k<16:=ah
  have hx:=Ei _ hq
  have dk:=MH _ hq
  have ep:=ur seed leaf k
  have Nk:(0:Int)≤wv (u64 (k:Int)):=Int.natCast_nonneg _
  have hn:=sg seed k (leaf/2^k^^^1) Br (Nat.lt_of_lt_of_le dk (Nat.le_trans (by decide:16≤2^36) (Nat.pow_le_pow_right (by decide) ah)))
  generalize leaf/2^k^^^1=x at *
  generalize gf seed k x=r at *
  generalize leaf/2^k=q at *
  refine aW<|zS<|zB 1<|zX ({hs:=[(6,yV (aw (u64 (↑k:Int)))),(7,yV (ai ↑q)),(8,yV (ai ↑x)),(9,yV (aw r)),(10,yV (AV.arr (aj [r]))),(11,yV (AV.arr (aj (dn seed leaf k++ [r]))))],T:=11}) [yI (ba ((↑k:Int))),yI (yc hs),yI Nk,yI (yc hx),yI hn,yR [aw r],yB (aj (dn seed leaf k)++aj [r]=aj (dn seed leaf k++ [r])) (je _ _),yB (((aj (dn seed leaf k)).length+1)*8≤140737488355328) (by simp only [aC,rj];omega),yL 3 3]<|aM<|ak<|zX (yH [(1,yV (ai ((↑k:Int)+1)))]) [yN ((↑k:Int)+1)] (aH (k+1) ah ah (eu [.aa [10,25,9,8,0,1,2,3,11] [8,31,10,49]] [] [49] [yB (aj (dn seed leaf k++ [r])=aj (dn seed leaf (k+1))) (congrArg aj ep.symm)]))
 ·have e:k=h:=ah
  subst e
  refine zE 0<|aS<|aK<|bg<|ak<|zP 1 [{}] [.aa [9,35,10,25,8,0,1,2,3,11] [8,31,10,49]] [yL 3 3]<|zR (bL)
def i7 (h leaf:Int):Prop:=bB h∨leaf<0∨((2^h.toNat:Nat):Int)≤leaf
instance (h leaf:Int):Decidable (i7 h leaf):=by unfold i7;infer_instance
def wS (h leaf:Int):Int:=if i7 h leaf then 9 else 0
def pa (h leaf:Int):Int:=if i7 h leaf then 0 else leaf
def oG (seed:UInt64) (h leaf:Int) (m:UInt64):List UInt64:=if i7 h leaf then [] else bW seed leaf m 18
def oF (seed:UInt64) (h leaf:Int):List UInt64:=if i7 h leaf then [] else dn seed leaf.toNat h.toNat
theorem sf (seed:UInt64) (h leaf:Int) (m:UInt64):bC Tryz.prog 55 [aw seed,ai h,ai leaf,aw m] (.bk [.agg [ai (pa h leaf),.own 1 (aj (oG seed h leaf m)),.own 1 (aj (oF seed h leaf))],ai (wS h leaf)]):=by
 by_cases fa:i7 h leaf
 ·have e1:wS h leaf=9:=if_pos fa
  have e2:pa h leaf=0:=if_pos fa
  have e3:oG seed h leaf m= []:=if_pos fa
  have e4:oF seed h leaf= []:=if_pos fa
  rw [e1,e2,e3,e4]
  unfold i7 at fa
  by_cases hb:bB h
  ·refine zO Tryz.func55 52<|zq<|zS<|zP 1 [yH [(1,yV (ao (!decide (bB h))))]] [.aa [25,9,8,0,1,2,3] [8]] ([yI (cm h)]++yM 3 (yS ((!!decide (bB h))=true))++yM 6 (yR true))<|zT 25<|zP 1 [{}] [.aa [9,25,8,0,1,2,3] [8]] [yL 3 3]<|dd (bL)
  have rF:0≤h∧h≤4:=by unfold bB at hb;omega
  obtain ⟨k,rfl⟩:=Int.eq_ofNat_of_zero_le rF.1
  rw [Int.toNat_natCast] at fa
  by_cases dk:leaf<0
  ·refine zO Tryz.func55 52<|zq<|zS<|zP 1 [yH ([(1,yV (ao (!decide (bB (↑k:Int))))),(6,{b:=false})]++yg [4,5])] [.aa [25,9,8,0,1,2,3] [8]] ([yI (cm ((↑k:Int)))]++yM 3 (yS ((!!decide (bB (↑k:Int)))=false))++yM 6 (yT (leaf<0)))<|zT 25<|zP 1 [{}] [.aa [9,25,8,0,1,2,3] [8]] [yL 3 3]<|dd (bL)
  have uW:((2^k:Nat):Int)≤leaf:=by rcases fa with h|h|h<;>first|exact absurd h hb|exact absurd h dk|exact h
  have hp:2^k≤16:=Nat.pow_le_pow_right (by decide) (by omega:k≤4)
  have C8:IntKind.i64.wrap (1*2^min (wv (u64 (k:Int))).toNat IntKind.i64.bits)=((2^k:Nat):Int):=by
   rcases (ah:k=0∨k=1∨k=2∨k=3∨k=4) with rfl|rfl|rfl|rfl|rfl<;>decide +kernel
  have Ko:(0:Int)≤wv (u64 (k:Int)):=Int.natCast_nonneg _
  generalize 2^k=p2 at *
  refine zO Tryz.func55 52<|zq<|zS<|zP 1 [yH ([(1,yV (ao (!decide (bB (↑k:Int))))),(6,{b:=false}),(10,{av:=some (aw (u64 (↑k:Int))),g:=false}),(11,{av:=some (ai ↑p2),g:=false}),(13,{b:=false})]++yg [4,5,8,9,12])] [.aa [25,9,8,0,1,2,3] [8]] ([yI (cm ((↑k:Int)))]++yM 3 (yS ((!!decide (bB (↑k:Int)))=false))++yM 3 (yF (leaf<0))++ [yI (ba ((↑k:Int))),yF (leaf<0),yI (yc C8),yI Ko]++yM 2 (yF (leaf<0)))<|gN 25 (leaf≥(↑p2:Int))<|zP 1 [{}] [.aa [9,25,8,0,1,2,3] [8]] [yL 3 3]<|dd (bL)
 ·have e1:wS h leaf=0:=if_neg fa
  have e2:pa h leaf=leaf:=if_neg fa
  have e3:oG seed h leaf m=bW seed leaf m 18:=if_neg fa
  have e4:oF seed h leaf=dn seed leaf.toNat h.toNat:=if_neg fa
  rw [e1,e2,e3,e4]
  unfold i7 bB at fa
  have rF:0≤h∧h≤4∧0≤leaf:=ah
  obtain ⟨k,rfl⟩:=Int.eq_ofNat_of_zero_le rF.1
  obtain ⟨i,rfl⟩:=Int.eq_ofNat_of_zero_le rF.2.2
  rw [Int.toNat_natCast,Int.toNat_natCast]
  rw [Int.toNat_natCast] at fa
  exact CH seed k i m ah ah
theorem HD (seed:UInt64) (h leaf:Int) (m:UInt64) (fa:i7 h leaf):bC Tryz.prog 51 [aw seed,ai h,ai leaf,aw m] (.bk [.agg [ai 0,.sl 1 (aj []),.own 1 (aj [])],ai 9]):=by
 unfold i7 at fa
 by_cases hb:bB h
 ·refine zO Tryz.func51 48<|zq<|zS<|zP 1 [yH [(1,yV (ao (decide (bB h))))]] [.aa [19,9,8,6,5,0,1,2,3] [8,6,5]] ([yI (hY h)]++yM 4 (yT (bB h)))<|zT 19<|zP 1 [{}] [.aa [9,19,8,6,5,0,1,2,3] [8,6,5]] [yL 3 3]<|dd (bL)
 have rF:0≤h∧h≤4:=by unfold bB at hb;omega
 obtain ⟨k,rfl⟩:=Int.eq_ofNat_of_zero_le rF.1
 rw [Int.toNat_natCast] at fa
 have ho:leaf<0∨((2^k:Nat):Int)≤leaf:=fa.resolve_left hb
 have hk:k≤4:=ah
 refine zO Tryz.func51 48<|zq<|zS<|zP 1 [yH ([(1,yV (ao (decide (bB (↑k:Int))))),(5,{av:=some (ao (decide (leaf<0∨(↑((2:Nat)^k):Int)≤leaf))),g:=false}),(6,{b:=false})]++yg [3,4])] [.aa [19,9,8,6,5,0,1,2,3] [8,6,5]] ([yI (hY ((↑k:Int)))]++yM 3 (yF (bB (↑k:Int)))++ [yI (iC leaf k hk),yF (bB (↑k:Int))])<|gN 19 (leaf<0∨(↑((2:Nat)^k):Int)≤leaf)<|zP 1 [{}] [.aa [9,19,8,6,5,0,1,2,3] [8,6,5]] [yL 3 3]<|dd (bL)
def q6 (seed:UInt64) (h leaf:Nat) (x:AV) (i:Nat):List (Nat×Row) :=
 [(1000000000005,⟨1,false,true,[ai (h:Int)]⟩),(1000000000006,⟨1,false,true,[ai (leaf:Int)]⟩),(1000000000008,⟨1,false,true,[ai 0,.nil,.nil]⟩),(1000000000010,⟨1,false,true,[ai (leaf:Int),x,.ref 49]⟩),(49,⟨1,true,false,aj (dn seed leaf (min i h))⟩)]
def Aq (seed:UInt64) (h:Nat) (m:UInt64):List (Nat×AV) :=
 [(29,.kX 142 [.ptr [ai (h:Int)] 0,.ptr [aw seed] 0]),(10,.addr 1000000000010 0),(9,ai 0),(8,.addr 1000000000008 0),(6,.addr 1000000000006 0),(5,.addr 1000000000005 0),(0,aw seed),(3,aw m)]
theorem Ap (seed:UInt64) (h leaf:Nat) (m:UInt64) (L:List AV) (i:Nat) (v:Value):Eg [(v,.sl 1 L)] ⟨Aq seed h m,q6 seed h leaf (.val v) i⟩ ⟨Aq seed h m,q6 seed h leaf (.sl 1 L) i⟩:=by
 intro Z w0 n a w φ hs hr
 have h1:=hs.close_ 1000000000010 1 (r:=⟨1,false,true,[ai (leaf:Int),.val v,.ref 49]⟩) (x:=.sl 1 L) (v:=v) rfl rfl rfl (hr (v,.sl 1 L) (by simp))
 refine h1.congr fun i'=>?_
 show look (q6 seed h leaf (.sl 1 L) i) i'=look ((1000000000010,⟨1,false,true,[ai (leaf:Int),.sl 1 L,.ref 49]⟩):: [(1000000000005,⟨1,false,true,[ai (h:Int)]⟩),(1000000000006,⟨1,false,true,[ai (leaf:Int)]⟩),(1000000000008,⟨1,false,true,[ai 0,.nil,.nil]⟩),(49,⟨1,true,false,aj (dn seed leaf (min i h))⟩)]) i'
 unfold q6
 simp only [aF]
 by_cases e:1000000000010=i'
 ·subst e;rfl
 ·simp only [e,if_false]
theorem HF (seed:UInt64) (h leaf:Nat) (m:UInt64) (L:List AV) (Z:bn) (w0:World) (n:Nat) (a:Act) (w:World) (φ:Nat->Option Nat) (hs:aO Z w0 n [] (AS.mk (Aq seed h m) [(1000000000005,⟨1,false,true,[ai (h:Int)]⟩),(1000000000006,⟨1,false,true,[ai (leaf:Int)]⟩),(1000000000008,⟨1,false,true,[ai 0,.nil,.nil]⟩),(1000000000010,⟨1,false,true,[ai (leaf:Int),.sl 1 L,.nil]⟩)]) a w φ) :
  ∃(j9:Nat->Option Nat) (vs:List Value),vs.length= [AV.sl 1 L].length∧aO Z w0 n [] ⟨Aq seed h m,q6 seed h leaf (.val (vs.headD default)) 0⟩ a w j9∧ ∀p∈vs.zip [AV.sl 1 L],cB (aQ Z w j9 []) w p.1 p.2:=by
 obtain ⟨j9,h2⟩:=(bU.LX 1000000000010 2 49 1 (r:=⟨1,false,true,[ai (leaf:Int),.sl 1 L,.nil]⟩) rfl rfl rfl rfl) Z w0 n a w ⟨φ,hs⟩
 obtain ⟨v,h3,hr⟩:=h2.open_ 1000000000010 1 (r:=⟨1,false,true,[ai (leaf:Int),.sl 1 L,.ref 49]⟩) (x:=.sl 1 L) rfl rfl rfl rfl
 refine ⟨j9,[v],rfl,h3.congr fun i'=>?_,fun p hp=>?_⟩
 ·show look (q6 seed h leaf (.val v) 0) i'=look [(1000000000010,⟨1,false,true,[ai (leaf:Int),.val v,.ref 49]⟩),(49,⟨1,true,false,[]⟩),(1000000000005,⟨1,false,true,[ai (h:Int)]⟩),(1000000000006,⟨1,false,true,[ai (leaf:Int)]⟩),(1000000000008,⟨1,false,true,[ai 0,.nil,.nil]⟩)] i'
  have e0:aj (dn seed leaf (min 0 h))= []:=by simp [dn,aj]
  unfold q6
  rw [e0]
  simp only [aF]
  by_cases e:1000000000010=i'
  ·subst e;rfl
  ·simp only [e,if_false]
   by_cases e:49=i'
   ·subst e;rfl
   ·simp only [e,if_false]
 ·obtain rfl:p=(v,.sl 1 L):=by simpa using hp
  exact hr
theorem wR (leaf k:Nat) (hk:k≤4):((leaf:Int)).fdiv (2^min ((k:Int)).toNat IntKind.i64.bits)=((leaf/2^k:Nat):Int):=by
 have e:(2:Int)^min ((k:Int)).toNat IntKind.i64.bits=((2^k:Nat):Int):=by
  rcases (ah:k=0∨k=1∨k=2∨k=3∨k=4) with rfl|rfl|rfl|rfl|rfl<;>decide +kernel
 rw [e,Int.fdiv_eq_ediv_of_nonneg _ (Int.natCast_nonneg _)];rfl
theorem Hi (q m:Nat) (hm:m≤8) (hq:q<2*m):q^^^1<2*m:=by
 have key:∀m:Fin 9,∀q:Fin 16,q.val<2*m.val->q.val^^^1<2*m.val:=by decide +kernel
 exact key ⟨m,ah⟩ ⟨q,ah⟩ hq
theorem KJ (seed:UInt64) (h leaf:Nat) (m:UInt64) (hh:h≤4) (hl:leaf<2^h):bC Tryz.prog 51 [aw seed,ai h,ai leaf,aw m] (.bk [.agg [ai leaf,.sl 1 (aj (bW seed leaf m 18)),.own 1 (aj (dn seed leaf h))],ai 0]):=by
 have hb:¬bB (h:Int):=by unfold bB;omega
 have hp:2^h≤16:=Nat.pow_le_pow_right (by decide) hh
 have ho:¬((leaf:Int)<0∨((2^h:Nat):Int)≤leaf):=ah
 refine zO Tryz.func51 48<|zq<|zS<|zP 1 [yH ([(1,yV (ao (decide (bB (↑h:Int))))),(5,{av:=some (ao (decide ((↑leaf:Int)<0∨(↑((2:Nat)^h):Int)≤(↑leaf:Int)))),g:=false}),(6,{b:=false})]++yg [3,4])] [.aa [19,9,8,6,5,0,1,2,3] [8,6,5]] ([yI (hY ((↑h:Int)))]++yM 3 (yF (bB (↑h:Int)))++ [yI (iC ((↑leaf:Int)) h hh),yF (bB (↑h:Int))])<|dq 19 ((↑leaf:Int)<0∨(↑((2:Nat)^h):Int)≤(↑leaf:Int))<|aW<|zS<|wz 7 [6] [(4,yV (AV.own 1 (aj (bW seed (↑leaf:Int) m 18))))] [yI (wQ seed ((↑leaf:Int)) m),yB (lr (aj (bW seed (↑leaf:Int) m 18))) (gv _),yR (ai ↑leaf),yR (aw seed),yR (ai ↑leaf),yR (aw m),yR (AV.sl 1 (aj (bW seed (↑leaf:Int) m 18))),yI (wQ seed ((↑leaf:Int)) m),yB (lr (aj (bW seed (↑leaf:Int) m 18))) (gv _),yR (AV.agg [ai ↑leaf,AV.sl 1 (aj (bW seed (↑leaf:Int) m 18)),AV.nil]),yL 3 3]<|ak<|bf.r9 [.aa [10,19,9,8,6,5,0,1,2,3] [10,8,6,5]] bt<|zS<|zP 1 [yH [(2,{av:=some (AV.kX 142 [AV.ptr [ai ↑h] 0,AV.ptr [aw seed] 0]),b:=false})]] [.aa [29,10,19,9,8,6,5,0,1,2,3] [10,8,6,5]] [yI (CY seed ((↑h:Int)))]<|zB 0 ?_
 refine bf.M8 bt _ _ (Bb seed h hh) bt bt bt [(5,1000000000005),(6,1000000000006),(8,1000000000008),(10,1000000000010)] bt [.sl 1 (aj (bW seed leaf m 18))]
  (Aq seed h m) (fun vs i=>q6 seed h leaf (.val (vs.headD default)) i) ⟨Aq seed h m,q6 seed h leaf (.sl 1 (aj (bW seed leaf m 18))) (h+1)⟩
  (fun Z w0 a w φ hs=>?_) (fun vs _=>by kernel_rfl) (fun _=>by kernel_rfl) bt (fun vs i _ _=>⟨eD (iG rfl) (eD (iG rfl) (eD (iG rfl) (eD (iG rfl) (eD (qH _) vz)))),by kernel_rfl⟩) (fun vs i hv hi=>?_) (fun vs hv=>?_) ?_
 ·obtain ⟨iI,h1⟩:=(zW [.aa [29,10,9,8,6,5,0,3] [1000000000005,1000000000006,1000000000008,1000000000010]]) Z w0 48 a w ⟨φ,hs⟩
  exact HF seed h leaf m _ Z w0 48 a w iI h1
 ·obtain ⟨v,rfl⟩:=List.length_eq_one_iff.1 hv
  refine bf.Ro (AS.mk ([(31,.sl 1 (aj (kO seed h i))),(30,ai (i:Int))]++Aq seed h m) [(1000000000005,⟨1,false,true,[ai (h:Int)]⟩),(1000000000006,⟨1,false,true,[ai (leaf:Int)]⟩),(1000000000008,⟨1,false,true,[ai 0,.nil,.nil]⟩),(1000000000010,⟨1,false,true,[ai (leaf:Int),.val v,.ref 49]⟩),(49,⟨1,true,false,aj (dn seed leaf (min i h))⟩)]) bt ?_
  rw [show min i h=i by omega]
  refine bf.Ro (AS.mk [(31,.sl 1 (aj (kO seed h i))),(30,ai (i:Int)),(29,.kX 142 [.ptr [ai (h:Int)] 0,.ptr [aw seed] 0]),(10,.addr 1000000000010 0),(9,ai 0),(8,.addr 1000000000008 0),(6,.addr 1000000000006 0),(5,.addr 1000000000005 0),(0,aw seed),(3,aw m)] [(1000000000005,⟨1,false,true,[ai (h:Int)]⟩),(1000000000006,⟨1,false,true,[ai (leaf:Int)]⟩),(1000000000008,⟨1,false,true,[ai 0,.nil,.nil]⟩),(1000000000010,⟨1,false,true,[ai (leaf:Int),.val v,.ref 49]⟩),(49,⟨1,true,false,aj (dn seed leaf i)⟩)]) bt<|zq<|zX {} []<|ak<|zB 1<|zS<|zP 1 [{}] [.aa [34,12,11,31,30,29,10,9,8,6,5,0,3] [1000000000005,1000000000006,1000000000008,1000000000010,49]] [] (bf.JZ (x:=.tmp 34) (u:=(↑i:Int)) (v:=(↑h:Int)) bt bt (fun g=>?_) (fun g=>?_))
  ·have e:i=h:=ah
   subst e
   refine zE 0<|aS<|IB bt ?_
   refine ⟨q6 seed i leaf (.val v) (i+1),⟨Aq seed i m,q6 seed i leaf (.sl 1 (aj (bW seed leaf m 18))) (i+1)⟩,eD (iG rfl) (eD (iG rfl) (eD (iG rfl) (eD (iG rfl) (eD (qH _) vz)))),by kernel_rfl,
    bU.of [.aa [] [1000000000005,1000000000006,1000000000008,1000000000010,49]] (s1:=AS.mk [] [(1000000000005,⟨1,false,true,[ai (i:Int)]⟩),(1000000000006,⟨1,false,true,[ai (leaf:Int)]⟩),(1000000000008,⟨1,false,true,[ai 0,.nil,.nil]⟩),(1000000000010,⟨1,false,true,[ai (leaf:Int),.val v,.ref 49]⟩),(49,⟨1,true,false,aj (dn seed leaf i)⟩)]) bt (by unfold q6;rw [show min (i+1) i=i by omega]),Ap seed i leaf m _ (i+1) v,bg (ak ?_)⟩
   refine bf.Ro (AS.mk [(29,.kX 142 [.ptr [ai (i:Int)] 0,.ptr [aw seed] 0]),(10,.addr 10 0),(9,ai 0),(8,.addr 8 0),(6,.addr 6 0),(5,.addr 5 0),(0,aw seed),(3,aw m)] [(5,⟨1,false,true,[ai (i:Int)]⟩),(6,⟨1,false,true,[ai (leaf:Int)]⟩),(8,⟨1,false,true,[ai 0,.nil,.nil]⟩),(10,⟨1,false,true,[ai (leaf:Int),.sl 1 (aj (bW seed leaf m 18)),.ref 49]⟩),(49,⟨1,true,false,aj (dn seed leaf (min (i+1) i))⟩)]) bt ?_
   rw [show min (i+1) i=i by omega]
   refine bf.jZ 1 [{}] [.aa [9,29,10,8,6,5,0,3] [8,5,6,10,49]] bt (s':=AS.mk [(9,ai 0),(29,AV.kX 142 [AV.ptr [ai ↑i] 0,AV.ptr [aw seed] 0]),(10,AV.addr 10 0),(8,AV.addr 8 0),(6,AV.addr 6 0),(5,AV.addr 5 0),(0,aw seed),(3,aw m)] [(8,Row.mk 1 false true [ai ↑leaf,AV.sl 1 (aj (bW seed (↑leaf:Int) m 18)),AV.ref 49]),(5,Row.mk 1 false true [ai ↑i]),(6,Row.mk 1 false true [ai ↑leaf]),(10,Row.mk 1 false true [ai ↑leaf,AV.sl 1 (aj (bW seed (↑leaf:Int) m 18)),AV.ref 49]),(49,Row.mk 1 true false (aj (dn seed leaf i)))]) (C:=[3≤3]) bt ⟨ah,trivial⟩<|zR (bL)
  ·have Br:i≤4:=ah
   have hs:=wR leaf i Br
   have hle:leaf/2^i≤leaf:=Nat.div_le_self ..
   have hq:leaf/2^i<16:=ah
   have hx:=Ei _ hq
   have em:2^(h-i)=2*2^(h-(i+1)):=by rw [show h-i=h-(i+1)+1 by omega,Nat.pow_succ,Nat.mul_comm]
   have Vc:2^(h-(i+1))≤8:=Nat.le_trans (Nat.pow_le_pow_right (by decide) (by omega:h-(i+1)≤3)) (by decide)
   have hdiv:leaf/2^i<2^(h-i):=by
    rw [Nat.div_lt_iff_lt_mul (Nat.two_pow_pos _),←Nat.pow_add,show h-i+i=h by omega];exact hl
   have G8:leaf/2^i^^^1<2^(h-i):=by rw [em];exact Hi _ _ Vc ah
   have gh:=qk seed h i _ G8
   have oJ:=qj seed h i
   have ep:=ur seed leaf i
   have oY:=rj seed leaf i
   have C_:min (i+1) h=i+1:=ah
   generalize leaf/2^i^^^1=x at *
   generalize leaf/2^i=q at *
   generalize kO seed h i=L at *
   generalize 2^(h-i)=c at *
   refine aW<|zX ({hs:=[(5,yV (ai ↑q)),(6,yV (ai ↑x)),(7,{k:=x}),(8,yV (aw (L.getD x 0))),(9,yV (AV.arr (aj [L.getD x 0]))),(10,yV (AV.arr (aj (dn seed leaf i++ [L.getD x 0]))))],T:=10}) [yI (yc hs),yO ((0:Int)≤(↑i:Int)),yI (yc hx),yR (↑x:Int),yB (x<(aj L).length) (by simp only [aC];omega),yB ((aj L)[x]?=some (aw (L.getD x 0))) (dK ah),yR [aw (L.getD x 0)],yB (aj (dn seed leaf i)++aj [L.getD x 0]=aj (dn seed leaf i++ [L.getD x 0])) (je _ _),yB (((aj (dn seed leaf i)).length+1)*8≤140737488355328) (by simp only [aC];omega),yL 3 3]<|aM ?_
   exact bU.of [.vK 45 49,.aa [] [1000000000005,1000000000006,1000000000008,1000000000010,49]] (s1:=AS.mk [] [(1000000000005,⟨1,false,true,[ai (h:Int)]⟩),(1000000000006,⟨1,false,true,[ai (leaf:Int)]⟩),(1000000000008,⟨1,false,true,[ai 0,.nil,.nil]⟩),(1000000000010,⟨1,false,true,[ai (leaf:Int),.val v,.ref 49]⟩),(49,⟨1,true,false,aj (dn seed leaf i++ [L.getD x 0])⟩)]) bt (by unfold q6;rw [C_,ep,gh];rfl)
 ·obtain ⟨v,rfl⟩:=List.length_eq_one_iff.1 hv
  exact Ap seed h leaf m _ (h+1) v
 ·refine aM (ak ?_)
  refine bf.Ro (AS.mk [(29,.kX 142 [.ptr [ai (h:Int)] 0,.ptr [aw seed] 0]),(10,.addr 10 0),(9,ai 0),(8,.addr 8 0),(6,.addr 6 0),(5,.addr 5 0),(0,aw seed),(3,aw m)] [(5,⟨1,false,true,[ai (h:Int)]⟩),(6,⟨1,false,true,[ai (leaf:Int)]⟩),(8,⟨1,false,true,[ai 0,.nil,.nil]⟩),(10,⟨1,false,true,[ai (leaf:Int),.sl 1 (aj (bW seed leaf m 18)),.ref 49]⟩),(49,⟨1,true,false,aj (dn seed leaf (min (h+1) h))⟩)]) bt ?_
  rw [show min (h+1) h=h by omega]
  refine zP 1 [{}] [.aa [9,29,10,8,6,5,0,3] [8,5,6,10,49]] [yL 3 3]<|zR (bL)
theorem HC (seed:UInt64) (h leaf:Int) (m:UInt64):bC Tryz.prog 51 [aw seed,ai h,ai leaf,aw m] (.bk [.agg [ai (pa h leaf),.sl 1 (aj (oG seed h leaf m)),.own 1 (aj (oF seed h leaf))],ai (wS h leaf)]):=by
 by_cases fa:i7 h leaf
 ·have e1:wS h leaf=9:=if_pos fa
  have e2:pa h leaf=0:=if_pos fa
  have e3:oG seed h leaf m= []:=if_pos fa
  have e4:oF seed h leaf= []:=if_pos fa
  rw [e1,e2,e3,e4]
  exact HD seed h leaf m fa
 ·have e1:wS h leaf=0:=if_neg fa
  have e2:pa h leaf=leaf:=if_neg fa
  have e3:oG seed h leaf m=bW seed leaf m 18:=if_neg fa
  have e4:oF seed h leaf=dn seed leaf.toNat h.toNat:=if_neg fa
  rw [e1,e2,e3,e4]
  unfold i7 bB at fa
  have rF:0≤h∧h≤4∧0≤leaf:=ah
  obtain ⟨k,rfl⟩:=Int.eq_ofNat_of_zero_le rF.1
  obtain ⟨i,rfl⟩:=Int.eq_ofNat_of_zero_le rF.2.2
  rw [Int.toNat_natCast,Int.toNat_natCast]
  rw [Int.toNat_natCast] at fa
  exact KJ seed k i m ah ah
def dv (leaf:Nat) (P:List UInt64) (x:UInt64):Nat->UInt64
 | 0=>x
 | k+1=>if leaf/2^k%2=0 then gR ((k+1:Nat):Int) (dv leaf P x k) (P.getD k 0) else gR ((k+1:Nat):Int) (P.getD k 0) (dv leaf P x k)
def kA (h:Int) (r m:UInt64) (leaf:Int) (C P:List UInt64):Int :=
 if i7 h leaf then 9 else if C.length≠18∨(P.length:Int)≠h then 4 else if dv leaf.toNat P (combine leaf (cO leaf m C 18)) h.toNat=r then 0 else 15
theorem Fu (q:Nat) (hq:q<16):IntKind.i64.wrap ((BitVec.ofInt IntKind.i64.bits (q:Int)&&&BitVec.ofInt IntKind.i64.bits 1).toNat:Nat)=((q%2:Nat):Int):=by
 have key:∀q:Fin 16,IntKind.i64.wrap ((BitVec.ofInt IntKind.i64.bits ((q.val:Nat):Int)&&&BitVec.ofInt IntKind.i64.bits 1).toNat:Nat)=((q.val%2:Nat):Int):=by decide +kernel
 exact key ⟨q,hq⟩
theorem Cp (h:Int) (r m:UInt64) (leaf:Int) (C P:List UInt64):bC Tryz.prog 104 [.agg [ai h,aw r],aw m,.agg [ai leaf,.sl 1 (aj C),.sl 1 (aj P)]] (ai (kA h r m leaf C P)):=by
 by_cases fa:i7 h leaf
 ·have e1:kA h r m leaf C P=9:=if_pos fa
  rw [e1]
  unfold i7 at fa
  by_cases hb:bB h
  ·refine zO Tryz.func104 74<|zq<|zS<|zP 1 [yH [(2,yV (ao (decide (bB h))))]] [.aa [20,6,5,3,0,1,2] [5,3]] ([yI (hY h)]++yM 6 (yT (bB h)))<|zT 20<|zq<|dd (bL)
  have rF:0≤h∧h≤4:=by unfold bB at hb;omega
  obtain ⟨k,rfl⟩:=Int.eq_ofNat_of_zero_le rF.1
  rw [Int.toNat_natCast] at fa
  have ho:leaf<0∨((2^k:Nat):Int)≤leaf:=fa.resolve_left hb
  have hk:k≤4:=ah
  refine zO Tryz.func104 74<|zq<|zS<|zP 1 [yH ([(2,yV (ao (decide (bB (↑k:Int))))),(8,{av:=some (ao (decide (leaf<0∨(↑((2:Nat)^k):Int)≤leaf))),g:=false}),(9,{b:=false})]++yg [4,5,6,7])] [.aa [20,6,5,3,0,1,2] [5,3]] ([yI (hY ((↑k:Int)))]++yM 5 (yF (bB (↑k:Int)))++ [yI (iC leaf k hk),yF (bB (↑k:Int))])<|gN 20 (leaf<0∨(↑((2:Nat)^k):Int)≤leaf)<|zq<|dd (bL)
 have hv:kA h r m leaf C P=if C.length≠18∨(P.length:Int)≠h then 4 else if dv leaf.toNat P (combine leaf (cO leaf m C 18)) h.toNat=r then 0 else 15:=if_neg fa
 unfold i7 bB at fa
 have rF:0≤h∧h≤4∧0≤leaf:=ah
 obtain ⟨k,rfl⟩:=Int.eq_ofNat_of_zero_le rF.1
 obtain ⟨i,rfl⟩:=Int.eq_ofNat_of_zero_le rF.2.2
 rw [Int.toNat_natCast] at fa
 rw [Int.toNat_natCast,Int.toNat_natCast] at hv
 have hk:k≤4:=ah
 have hb:¬bB (k:Int):=by unfold bB;omega
 have ho:¬((i:Int)<0∨((2^k:Nat):Int)≤i):=ah
 have hp:2^k≤16:=Nat.pow_le_pow_right (by decide) hk
 rw [hv]
 by_cases hC:C.length=18
 case neg =>
  rw [if_pos (.inl hC)]
  refine zO Tryz.func104 74<|zq<|zS<|zP 1 [yH ([(2,yV (ao (decide (bB (↑k:Int))))),(8,{av:=some (ao (decide ((↑i:Int)<0∨(↑((2:Nat)^k):Int)≤(↑i:Int)))),g:=false}),(9,{b:=false})]++yg [4,5,6,7])] [.aa [20,6,5,3,0,1,2] [5,3]] ([yI (hY ((↑k:Int)))]++yM 5 (yF (bB (↑k:Int)))++ [yI (iC ((↑i:Int)) k hk),yF (bB (↑k:Int))])<|dq 20 ((↑i:Int)<0∨(↑((2:Nat)^k):Int)≤(↑i:Int))<|aW<|zS<|zP 1 [yH [(2,{k:=C.length})]] [.aa [32,20,6,5,3,0,1,2] [5,3]] ([yI (aC C)]++yM 7 (yB (((↑C.length:Int) != (18:Int))=true) (by simp;omega)))<|zT 32<|zq<|dd (bL)
 by_cases hP:P.length=k
 case neg =>
  rw [if_pos (.inr ah)]
  refine zO Tryz.func104 74<|zq<|zS<|zP 1 [yH ([(2,yV (ao (decide (bB (↑k:Int))))),(8,{av:=some (ao (decide ((↑i:Int)<0∨(↑((2:Nat)^k):Int)≤(↑i:Int)))),g:=false}),(9,{b:=false})]++yg [4,5,6,7])] [.aa [20,6,5,3,0,1,2] [5,3]] ([yI (hY ((↑k:Int)))]++yM 5 (yF (bB (↑k:Int)))++ [yI (iC ((↑i:Int)) k hk),yF (bB (↑k:Int))])<|dq 20 ((↑i:Int)<0∨(↑((2:Nat)^k):Int)≤(↑i:Int))<|aW<|zS<|zP 1 [yH ([(2,{k:=C.length}),(7,{k:=P.length,g:=false}),(11,{b:=false})]++yg [5,6,8,9,10])] [.aa [32,20,6,5,3,0,1,2] [5,3]] ([yI (aC C)]++yM 3 (yS (((↑C.length:Int) != (18:Int))=false))++ [yI (aC P)]++yM 4 (yS (((↑C.length:Int) != (18:Int))=false)))<|dm 32 ((↑P.length:Int) != (↑k:Int)) (by simp;omega)<|zq<|dd (bL)
 rw [if_neg ah]
 have hr:oH i m C=combine i (cO i m C 18):=if_pos hC
 have he:lD C=0:=if_pos hC
 refine zO Tryz.func104 74<|zq<|zS<|zP 1 [yH ([(2,yV (ao (decide (bB (↑k:Int))))),(8,{av:=some (ao (decide ((↑i:Int)<0∨(↑((2:Nat)^k):Int)≤(↑i:Int)))),g:=false}),(9,{b:=false})]++yg [4,5,6,7])] [.aa [20,6,5,3,0,1,2] [5,3]] ([yI (hY ((↑k:Int)))]++yM 5 (yF (bB (↑k:Int)))++ [yI (iC ((↑i:Int)) k hk),yF (bB (↑k:Int))])<|dq 20 ((↑i:Int)<0∨(↑((2:Nat)^k):Int)≤(↑i:Int))<|aW<|zS<|zP 1 [yH ([(2,{k:=C.length}),(7,{k:=P.length,g:=false}),(11,{b:=false})]++yg [5,6,8,9,10])] [.aa [32,20,6,5,3,0,1,2] [5,3]] ([yI (aC C)]++yM 3 (yS (((↑C.length:Int) != (18:Int))=false))++ [yI (aC P)]++yM 4 (yS (((↑C.length:Int) != (18:Int))=false)))<|bj 32 ((↑P.length:Int) != (↑k:Int)) (by simp_all)<|aW<|zP 1 [yH [(5,yV (AV.bk [aw (oH (↑i:Int) m C),ai (lD C)]))]] [.aa [8,7,32,20,6,5,3,0,1,2] [5,3]] [yI (AX ((↑i:Int)) m C)]<|zS<|zq<|bj 43 (lD C != (0:Int)) (by simp_all)<|aW<|zS<|zP 1 [yH [(2,{k:=P.length})]] [.aa [48,47,46,43,8,7,32,20,6,5,3,0,1,2] [5,3]] [yI (aC P)]<|zB 0 (zL (fun (j:Nat)=>(⟨[(47,ai (↑P.length:Int)),(46,AV.sl 1 (aj P)),(43,ao (lD C != (0:Int))),(8,ai (lD C)),(32,ao ((↑P.length:Int) != (↑k:Int))),(20,ao (decide ((↑i:Int)<0∨(↑((2:Nat)^k):Int)≤(↑i:Int)))),(6,ai 0),(5,AV.addr 5 0),(3,AV.addr 3 0),(0,AV.agg [ai ↑k,aw r]),(1,aw m),(2,AV.agg [ai ↑i,AV.sl 1 (aj C),AV.sl 1 (aj P)]),(48,ai j),(7,aw (dv i P (combine i (cO i m C 18)) j))],[(5,⟨1,false,true,[ai ↑i,AV.sl 1 (aj C),AV.sl 1 (aj P)]⟩),(3,⟨1,false,true,[ai ↑k,aw r]⟩)]⟩:AS)) (fun j=>(j≤k)) (fun j=>(k-j)) (0) ?_ (eu [.aa [47,46,43,8,32,20,6,5,3,0,1,2,48,7] [5,3]] [7] [] [yB (aw (oH (↑i:Int) m C)=aw (dv i P (combine (↑i:Int) (cO (↑i:Int) m C 18)) 0)) (congrArg aw hr)]) ?_)
 ·omega
 intro j hj
 refine bf.jJ 1 [{}] bt (s':=AS.mk [(49,ao (decide ((↑j:Int)<(↑P.length:Int)))),(47,ai (↑P.length:Int)),(46,AV.sl 1 (aj P)),(43,ao (lD C != (0:Int))),(8,ai (lD C)),(32,ao ((↑P.length:Int) != (↑k:Int))),(20,ao (decide ((↑i:Int)<0∨(↑((2:Nat)^k):Int)≤(↑i:Int)))),(6,ai 0),(5,AV.addr 5 0),(3,AV.addr 3 0),(0,AV.agg [ai ↑k,aw r]),(1,aw m),(2,AV.agg [ai ↑i,AV.sl 1 (aj C),AV.sl 1 (aj P)]),(48,ai ↑j),(7,aw (dv i P (combine (↑i:Int) (cO (↑i:Int) m C 18)) j))] [(5,Row.mk 1 false true [ai ↑i,AV.sl 1 (aj C),AV.sl 1 (aj P)]),(3,Row.mk 1 false true [ai ↑k,aw r])]) (C:=[]) bt trivial<|zS (zD 49 ((↑j:Int)<(↑P.length:Int)) (fun g=>?_) (fun g=>?_))
 ·have hs:=wR i j ah
  have hle:i/2^j≤i:=Nat.div_le_self ..
  have hq:i/2^j<16:=ah
  have ha:=Fu _ hq
  have Nk:(0:Int)≤wv (u64 (j:Int)):=Int.natCast_nonneg _
  have Sc:IntKind.i64.wrap ((j:Int)+1)=((j+1:Nat):Int):=by rw [fg ah ah];omega
  have hc:dv i P (combine i (cO i m C 18)) (j+1)=if i/2^j%2=0 then gR ((j+1:Nat):Int) (dv i P (combine i (cO i m C 18)) j) (P.getD j 0) else gR ((j+1:Nat):Int) (P.getD j 0) (dv i P (combine i (cO i m C 18)) j):=rfl
  generalize i/2^j=q at *
  generalize hx:dv i P (combine i (cO i m C 18)) j=x at *
  by_cases h2:q%2=0
  ·rw [if_pos h2] at hc
   generalize q%2=q2 at *
   refine aW<|zS<|zB 1<|zP 2 [yH [(1,{k:=j}),(2,yV (aw (P.getD j 0)))],yH [(3,yV (ai ↑q)),(4,yV (ai ↑q2))]] [.aa [58,10,9,49,47,46,43,8,32,20,6,5,3,0,1,2,48,7] [5,3]] [yR (↑j:Int),yB (j<(aj P).length) (by simp only [aC];omega),yB ((aj P)[j]?=some (aw (P.getD j 0))) (dK ah),yI (yc hs),yO ((0:Int)≤(↑j:Int)),yI (yc ha)]<|dm 58 ((↑q2:Int) == (0:Int)) eg<|zX (yH [(1,yV (ai (↑(j+1):Int))),(4,yV (aw (gR (↑(j+1):Int) x (P.getD j 0))))]) [yB (ai (IntKind.i64.wrap ((↑j:Int)+1))=ai (↑(j+1):Int)) (dE ah ah),yI (pr (↑(j+1):Int) x (P.getD j 0))]<|aM<|ak<|bf.OG {hs:=[(0,{av:=some (ai ((↑j:Int)+1))})]} (s':=AS.mk [(48,ai ((↑j:Int)+1)),(69,ai ((↑j:Int)+1)),(7,aw (gR (↑(j+1):Int) x (P.getD j 0))),(63,aw (gR (↑(j+1):Int) x (P.getD j 0))),(62,aw (P.getD j 0)),(61,aw x),(60,ai (↑(j+1):Int)),(59,ai ↑j),(58,ao ((↑q2:Int) == (0:Int))),(10,aw (P.getD j 0)),(9,ai ↑j),(49,ao (decide ((↑j:Int)<(↑P.length:Int)))),(47,ai (↑P.length:Int)),(46,AV.sl 1 (aj P)),(43,ao (lD C != (0:Int))),(8,ai (lD C)),(32,ao ((↑P.length:Int) != (↑k:Int))),(20,ao (decide ((↑i:Int)<0∨(↑((2:Nat)^k):Int)≤(↑i:Int)))),(6,ai 0),(5,AV.addr 5 0),(3,AV.addr 3 0),(0,AV.agg [ai ↑k,aw r]),(1,aw m),(2,AV.agg [ai ↑i,AV.sl 1 (aj C),AV.sl 1 (aj P)])] [(5,Row.mk 1 false true [ai ↑i,AV.sl 1 (aj C),AV.sl 1 (aj P)]),(3,Row.mk 1 false true [ai ↑k,aw r])]) (C:=[ai (IntKind.i64.wrap ((↑j:Int)+1))=ai ((↑j:Int)+1)]) bt ⟨(dE ah ah),trivial⟩ (aH (j+1) ah ah (eu [.aa [47,46,43,8,32,20,6,5,3,0,1,2,48,7] [5,3]] [7] [] [yB (aw (gR (↑(j+1):Int) x (P.getD j 0))=aw (dv i P (combine (↑i:Int) (cO (↑i:Int) m C 18)) (j+1))) (by rw [hc])]))
  ·rw [if_neg h2] at hc
   generalize q%2=q2 at *
   refine aW<|zS<|zB 1<|zP 2 [yH [(1,{k:=j}),(2,yV (aw (P.getD j 0)))],yH [(3,yV (ai ↑q)),(4,yV (ai ↑q2))]] [.aa [58,10,9,49,47,46,43,8,32,20,6,5,3,0,1,2,48,7] [5,3]] [yR (↑j:Int),yB (j<(aj P).length) (by simp only [aC];omega),yB ((aj P)[j]?=some (aw (P.getD j 0))) (dK ah),yI (yc hs),yO ((0:Int)≤(↑j:Int)),yI (yc ha)]<|bj 58 ((↑q2:Int) == (0:Int)) bD<|zX (yH [(1,yV (ai (↑(j+1):Int))),(4,yV (aw (gR (↑(j+1):Int) (P.getD j 0) x)))]) [yB (ai (IntKind.i64.wrap ((↑j:Int)+1))=ai (↑(j+1):Int)) (dE ah ah),yI (pr (↑(j+1):Int) (P.getD j 0) x)]<|aM<|ak<|zX (yH [(0,yV (ai ((↑j:Int)+1)))]) [yN ((↑j:Int)+1)] (aH (j+1) ah ah (eu [.aa [47,46,43,8,32,20,6,5,3,0,1,2,48,7] [5,3]] [7] [] [yB (aw (gR (↑(j+1):Int) (P.getD j 0) x)=aw (dv i P (combine (↑i:Int) (cO (↑i:Int) m C 18)) (j+1))) (by rw [hc])]))
 ·have e:j=k:=ah
  subst e
  by_cases kk:dv i P (combine i (cO i m C 18)) j=r
  ·rw [if_pos kk]
   refine zE 0<|aS<|aK<|bg<|ak<|zS<|zP 1 [yH [(3,yV (ao (dv i P (combine (↑i:Int) (cO (↑i:Int) m C 18)) j != r)))]] [.aa [73,49,47,46,43,8,32,20,6,5,3,0,1,2,48,7] [5,3]] [yI (cJ (dv i P (combine (↑i:Int) (cO (↑i:Int) m C 18)) j) r)]<|bj 73 (dv i P (combine (↑i:Int) (cO (↑i:Int) m C 18)) j != r) (by simp_all)<|aW<|zq<|zR (bL)
  ·rw [if_neg kk]
   refine zE 0<|aS<|aK<|bg<|ak<|zS<|zP 1 [yH [(3,yV (ao (dv i P (combine (↑i:Int) (cO (↑i:Int) m C 18)) j != r)))]] [.aa [73,49,47,46,43,8,32,20,6,5,3,0,1,2,48,7] [5,3]] [yI (cJ (dv i P (combine (↑i:Int) (cO (↑i:Int) m C 18)) j) r)]<|dm 73 (dv i P (combine (↑i:Int) (cO (↑i:Int) m C 18)) j != r) (by simp_all)<|zq<|dd (bL)
instance:Inhabited gb:=⟨⟨[],0,[],[]⟩⟩
def OH (a b:List UInt8):Bool:=Op.bytesLess (⟨a.toArray⟩:ByteArray).toList (⟨b.toArray⟩:ByteArray).toList
def gE (leaf:Int):UInt64:=(1:UInt64)<<<UInt64.ofNat leaf.toNat
def K4 (l:List Mem) (n:List UInt8):Mem:=l.getD (dG l n).toNat default
def jY (g:gp) (w:UInt64) (l:List gb) (i:Nat):Int :=
 if 0<i∧F9 (l.getD i default).name (l.getD (i-1) default).name=true then 7 else if dG g.al (l.getD i default).name<0 then 11
 else if kA (K4 g.al (l.getD i default).name).h (K4 g.al (l.getD i default).name).r w (l.getD i default).leaf (l.getD i default).ga (l.getD i default).path≠0 then kA (K4 g.al (l.getD i default).name).h (K4 g.al (l.getD i default).name).r w (l.getD i default).leaf (l.getD i default).ga (l.getD i default).path
 else if (K4 g.al (l.getD i default).name).used&&&gE (l.getD i default).leaf≠0 then 37 else 0
def fB (g:gp) (w:UInt64) (l:List gb):Int:=if ff (jY g w l) l.length≠0 then ff (jY g w l) l.length else if (l.length:Int)<g.br then 41 else 0
def pG (l:List Mem) (k:Nat):List Mem:=l.take k++l.drop (k+1)
def sX (g:gp) (l:List (List UInt8)) (i:Nat):Int:=if dG g.al (l.getD i default)<0 then 11 else 0
def gL (g:gp) (e:dP):Int :=
 if e.kind=1 then (if 0≤dG g.al e.name then 10 else if 8≤g.al.length then 12 else 0)
 else if e.kind=2 then (if dG g.al e.name<0 then 11 else if (g.al.length:Int)-1<g.br then 41 else 0)
 else if e.kind=3 then (if (g.al.length:Int)<e.br∨2*e.br≤g.al.length then 41 else 0)
 else if e.kind=4 then (if 8≤g.aL.length then 12 else if vP g.aL e.dep.bY<g.aL.length then 10 else ff (sX g e.dep.af) e.dep.af.length)
 else if vP g.aL e.bY=g.aL.length then 11 else if (g.aL.getD (vP g.aL e.bY) default).target≠0 then 18 else 0
def q8 (l:List np) (k:Nat) (t:UInt64):List np:=l.set k {l.getD k default with target:=t}
def cS (g:gp) (e:dP):gp :=
 if gL g e≠0 then g else if e.kind=1 then {g with br:=if 2*g.br≤g.al.length+1 then g.br+1 else g.br,al:=g.al++ [⟨e.name,e.kh,e.kr,0⟩]}
 else if e.kind=2 then {g with al:=pG g.al (dG g.al e.name).toNat} else if e.kind=3 then {g with br:=e.br}
 else if e.kind=4 then {g with aL:=g.aL++ [e.dep]} else {g with aL:=q8 g.aL (vP g.aL e.bY) e.target}
def pU (l:List Mem) (v:gb):List Mem:=if dG l v.name<0 then l else l.set (dG l v.name).toNat {K4 l v.name with used:=(K4 l v.name).used|||gE v.leaf}
def ke (l:List Mem) (vs:List gb):List Mem:=vs.foldl pU l
def fD (g:gp) (e:dP):Int:=if dH e≠0 then dH e else if e.aA≠g.aA+1∨e.prev≠g.head then 42 else if fB g (di e) e.aq≠0 then fB g (di e) e.aq else gL g e
def ia (g:gp) (e:dP):gp:=if fD g e≠0 then g else ⟨e.aA,di e,(cS g e).br,ke (cS g e).al e.aq,(cS g e).aL⟩
def A4 (l:List gb) (n:List UInt8):Nat:=(l.takeWhile fun v=>OH v.name n).length
def lL (l:List gb) (n:List UInt8):Bool:=l.any fun v=>v.name == n
def lS (e:dP) (n:List UInt8) (h leaf:Int):Int:=if dH e≠0 then dH e else if lL e.aq n=true then 10 else wS h leaf
def Bh (l:List gb) (v:gb):List gb:=l.take (A4 l v.name)++ [v]++l.drop (A4 l v.name)
def tO (e:dP) (n:List UInt8) (seed:UInt64) (h leaf:Int):dP :=
 if lS e n h leaf≠0 then ⟨0,0,0,[],0,0,0,⟨0,0,[],[],[],0,0⟩,0,0,[]⟩ else {e with aq:=Bh e.aq ⟨n,pa h leaf,oG seed h leaf (di e),oF seed h leaf⟩}
theorem tP {h:Int} {r m:UInt64} {leaf:Int} {C P:List UInt64} (e:kA h r m leaf C P=0):0≤leaf∧leaf<16:=by
 have nb:¬i7 h leaf:=by
  intro q
  unfold kA at e
  rw [if_pos q] at e;omega
 unfold i7 bB at nb
 have:2^h.toNat≤2^4:=Nat.pow_le_pow_right (by decide) ah
 omega
theorem Ov (u:UInt64) (n:Nat) (h:n<64):((u>>>UInt64.ofNat n)&&&1=1)↔u&&&((1:UInt64)<<<UInt64.ofNat n)≠0:=by
 have hn:(UInt64.ofNat n).toNat%64=n:=by rw [UInt64.toNat_ofNat_of_lt' (by show n<2^64;omega)];omega
 have h1:((u>>>UInt64.ofNat n)&&&1=1)↔u.toNat.testBit n=true:=by
  rw [←UInt64.toNat_inj,UInt64.toNat_and,UInt64.toNat_shiftRight,hn]
  show (u.toNat>>>n)&&&1=1↔_
  rw [Nat.and_one_is_mod,Nat.testBit]
  simp [Nat.one_and_eq_mod_two]
 have h2:u&&&((1:UInt64)<<<UInt64.ofNat n)=0↔u.toNat.testBit n=false:=by
  rw [←UInt64.toNat_inj,UInt64.toNat_and,UInt64.toNat_shiftLeft,hn]
  show u.toNat&&&((1<<<n)%2^64)=0↔_
  rw [Nat.mod_eq_of_lt (by rw [Nat.one_shiftLeft];exact Nat.pow_lt_pow_right (by decide) h),Nat.one_shiftLeft]
  constructor
  ·intro q
   cases hb:u.toNat.testBit n with
   | false=>rfl
   | true =>
    have:=congrArg (fun x=>x.testBit n) q
    simp [Nat.testBit_and,hb,Nat.testBit_two_pow_self] at this
  ·intro q
   refine Nat.eq_of_testBit_eq fun i=>?_
   rw [Nat.testBit_and,Nat.testBit_two_pow,Nat.zero_testBit]
   by_cases e:n=i
   ·subst e;rw [q];rfl
   ·simp [e]
 rw [h1,ne_eq,h2]
 cases u.toNat.testBit n<;>simp
theorem gI (l:List Mem) (n:List UInt8):dG l n= -1∨ ∃k:Nat,dG l n=k∧k<l.length∧(l.getD k default).name=n:=by
 unfold dG
 split
 ·rename_i h
  obtain ⟨m,hm,e⟩:=h
  have dk:=List.findIdx_lt_length_of_exists (p:=fun m:Mem=>m.name == n) ⟨m,hm,by simp [e]⟩
  refine .inr ⟨_,rfl,dk,?_⟩
  have:=List.findIdx_getElem (p:=fun m:Mem=>m.name == n) (w:=dk)
  rw [List.getD_eq_getElem?_getD,List.getElem?_eq_getElem dk]
  simpa using this
 ·exact .inl rfl
def KI (es:List (Nat×Nat)) (j:Nat):AV->AV
 | .nil=>(match look es j with|some e=>.sl e []|none=>.nil)
 | x=>x
theorem KH (es:List (Nat×Nat)) (j:Nat) (x:AV):KI es j x=x∨x= .nil∧ ∃e,KI es j x= .sl e []:=by
 cases x with
 | nil =>
  cases h:look es j with
  | none=>exact .inl (by show (match look es j with|some e=>AV.sl e []|none=>.nil)=_;rw [h])
  | some e=>exact .inr ⟨rfl,e,by show (match look es j with|some e=>AV.sl e []|none=>.nil)=_;rw [h]⟩
 | _=>exact .inl rfl
def Kj (es:List (Nat×Nat)):List AV->Nat->List AV
 | [],_=>[]
 | x::l,j=>KI es j x::Kj es l (j+1)
def QY (es:List (Nat×Nat)):AV->AV
 | .agg cs=>.agg (Kj es cs 0)
 | x=>x
theorem xK (es:List (Nat×Nat)):∀(l:List AV) (j:Nat),(Kj es l j).length=l.length
 | [],_=>rfl
 | _::l,j=>congrArg (· +1) (xK es l (j+1))
theorem Cv (es:List (Nat×Nat)):∀(l:List AV) (j i:Nat) (y:AV),(Kj es l j)[i]?=some y-> ∃x,l[i]?=some x∧(y=x∨x= .nil∧ ∃e,y= .sl e [])
 | [],_,_,_,h=>by cases h
 | x::l,j,0,y,h=>by
  have h:some (KI es j x)=some y:=h
  injection h with h
  subst h
  exact ⟨x,rfl,KH es j x⟩
 | x::l,j,i+1,y,h=>Cv es l (j+1) i y h
theorem cB.QY (es:List (Nat×Nat)) {S:Nat->Prop} {w:World} {v:Value} {x:AV} (h:cB S w v x):cB S w v (QY es x):=by
 cases h with
 | agg vs cs hl h =>
  refine .agg vs _ (by rw [hl,xK]) fun j v c hv hc=>?_
  obtain ⟨x,hx,e⟩:=Cv es cs 0 j c hc
  have hr:=h j v x hv hx
  rcases e with rfl|⟨rfl,e,rfl⟩
  ·exact hr
  ·cases hr;exact iN none 0 0 e (by simp) (Nat.le_refl _) (by simp)
 | nil=>exact .nil
 | val v=>exact .val v
 | bk vs cs hl h=>exact .bk vs cs hl h
 | arr vs cs hl h=>exact .arr vs cs hl h
 | sl A n c e us row hl hn hc hm ha h=>exact .sl A n c e us row hl hn hc hm ha h
 | pC A n e us row hl hn hm ha h=>exact .pC A n e us row hl hn hm ha h
 | ptr ad us row off hl hs ha h=>exact .ptr ad us row off hl hs ha h
 | kX f vs cs hl h=>exact .kX f vs cs hl h
theorem bC.EJ (es:List (Nat×Nat)) {P:Program} {f:FuncId} {args:List AV} {r:AV} (h:bC P f (args.map (QY es)) r):bC P f args r:=by
 intro w S vs j7 hS hv hr
 refine h w S vs j7 hS (by rw [List.length_map];exact hv) fun j v y US hy=>?_
 rw [List.getElem?_map] at hy
 cases hx:args[j]? with
 | none=>rw [hx] at hy;cases hy
 | some x=>rw [hx] at hy;cases hy;exact (hr j v x US hx).QY es
theorem bU.RH {s:AS} (id:Nat) (es:List (Nat×Nat)) {r:Row} (hr:look s.H id=some r):bU s ⟨s.F,(id,⟨r.e,r.pure,r.full,Kj es r.cells 0⟩)::cP s.H id⟩:=by
 intro S0 w0 n a w ⟨φ,hs⟩
 have hl:=xK es r.cells 0
 have hI:az ((id,(⟨r.e,r.pure,r.full,Kj es r.cells 0⟩:Row))::cP s.H id) φ=az s.H φ:=by
  funext i
  unfold az
  rw [aF]
  by_cases e1:id=i
  ·subst e1;rw [if_pos rfl,hr];show some (r.e,(Kj es r.cells 0).length,φ id)=_;rw [hl];rfl
  ·rw [if_neg e1,bJ,if_neg e1]
 refine ⟨φ,hs.jS,hs.jV,hs.cZ,fun i av hi=>by rw [hI];exact hs.cC i av hi,fun i q hq=>?_,fun i hi=>?_,hs.inj,hs.cY,hs.apart,hs.new⟩
 ·rw [hI]
  rw [aF] at hq
  by_cases e1:id=i
  ·subst e1
   rw [if_pos rfl] at hq;injection hq with hq;subst hq
   have aR:=hs.rows id r hr
   unfold bR at aR ⊢
   cases hg:φ id with
   | none=>rw [hg] at aR;exact List.eq_nil_of_length_eq_zero (by rw [hl,aR];rfl)
   | some g =>
    rw [hg] at aR
    obtain ⟨cur,te,fr,u1,u2,u3,u4,u5⟩:=aR
    refine ⟨cur,te,fr,u1,u2,by rw [hl];exact u3,fun h=>by rw [hl];exact u4 h,fun k u x hu hx=>?_⟩
    obtain ⟨y,hy,e⟩:=Cv es r.cells 0 k x hx
    have:=u5 k u y hu hy
    unfold bh at this ⊢
    rcases e with rfl|⟨rfl,e2,rfl⟩
    ·exact this
    ·have hv:u= .slice none 0 0:=by
      cases hp:r.pure with
      | true=>rw [hp] at this;cases this;rfl
      | false =>
       rw [hp] at this
       have this:Den _ _ _ u .nil:=this
       cases this with
       | rep h=>cases h;rfl
     subst hv
     show match r.pure with|true=>cB _ _ _ _|false=>Den _ _ _ _ _
     cases r.pure with
     | true=>exact iN none 0 0 e2 (by simp) (Nat.le_refl _) (by simp)
     | false=>exact .rep (iN none 0 0 e2 (by simp) (Nat.le_refl _) (by simp))
  ·rw [if_neg e1,bJ,if_neg e1] at hq
   exact hs.rows i q hq
 ·rw [aF] at hi
  by_cases e1:id=i
  ·subst e1;rw [if_pos rfl] at hi;cases hi
  ·rw [if_neg e1,bJ,if_neg e1] at hi;exact hs.only i hi
def CF (s:AS) (id:Nat):Row:=match look s.H id with|some r=>r|none=>⟨0,true,false,[]⟩
theorem bU.Nd {s:AS} (id:Nat) (es:List (Nat×Nat)) (hr:look s.H id=some (CF s id)):bU s ⟨s.F,(id,⟨(CF s id).e,(CF s id).pure,(CF s id).full,Kj es (CF s id).cells 0⟩)::cP s.H id⟩:=bU.RH id es hr
theorem Ng {ι:Type} {Inv:ι->Prop} {J:ι->AS} {s s1:AS} (hw:bU s s1) (h:∃x,Inv x∧bU s1 (J x)):∃x,Inv x∧bU s (J x):=by
 obtain ⟨x,hx,h⟩:=h
 exact ⟨x,hx,fun S0 w0 n a w hs=>h S0 w0 n a w (hw S0 w0 n a w hs)⟩
end Go.Proofs.YtjgbhhnghedgdaaGreatDoor
