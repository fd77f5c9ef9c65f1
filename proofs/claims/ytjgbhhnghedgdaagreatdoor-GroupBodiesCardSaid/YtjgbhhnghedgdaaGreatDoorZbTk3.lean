import Derived.Test.YtjgbhhnghedgdaaGreatDoorZbTk2
set_option linter.all false
namespace Go.Proofs.YtjgbhhnghedgdaaGreatDoor
open Go.RowKit
set_option maxRecDepth 100000
set_option maxHeartbeats 4000000
def dp (seed:UInt64) (leaf:Nat) (n:Nat):List UInt64:=(List.range n).map fun k=>fU seed k (leaf/2^k^^^1)
theorem t_ (seed:UInt64) (leaf k:Nat):dp seed leaf (k+1)=dp seed leaf k++ [fU seed k (leaf/2^k^^^1)]:=by simp [dp,List.range_succ]
theorem qV (seed:UInt64) (leaf k:Nat):(dp seed leaf k).length=k:=by simp [dp]
theorem zp (leaf k:Nat) (hk:k≤4):((leaf:Int)).fdiv (2^min (wv (u64 (k:Int))).toNat IntKind.i64.bits)=((leaf/2^k:Nat):Int):=by
 have e:(2:Int)^min (wv (u64 (k:Int))).toNat IntKind.i64.bits=((2^k:Nat):Int):=by
  rcases (aj:k=0∨k=1∨k=2∨k=3∨k=4) with rfl|rfl|rfl|rfl|rfl<;>decide +kernel
 rw [e,Int.fdiv_eq_ediv_of_nonneg _ (Int.natCast_nonneg _)];rfl
theorem DD (q:Nat) (hq:q<16):IntKind.i64.wrap ((BitVec.ofInt IntKind.i64.bits (q:Int)^^^BitVec.ofInt IntKind.i64.bits 1).toNat:Nat)=((q^^^1:Nat):Int):=by
 have key:∀q:Fin 16,IntKind.i64.wrap ((BitVec.ofInt IntKind.i64.bits ((q.val:Nat):Int)^^^BitVec.ofInt IntKind.i64.bits 1).toNat:Nat)=((q.val^^^1:Nat):Int):=by decide +kernel
 exact key ⟨q,hq⟩
theorem L9 (q:Nat) (hq:q<16):q^^^1<16:=by
 have key:∀q:Fin 16,q.val^^^1<16:=by decide +kernel
 exact key ⟨q,hq⟩
theorem BU (seed:UInt64) (h leaf:Nat) (m:UInt64) (hh:h≤4) (hl:leaf<2^h):bL Tryz.prog 55 [aw seed,ai h,ai leaf,aw m] (.bt [.agg [ai leaf,.own 1 (ah (bU seed leaf m 18)),.own 1 (ah (dp seed leaf h))],ai 0]):=by
 have hb:¬bB (h:Int):=by unfold bB;omega
 have hp:2^h≤16:=Nat.pow_le_pow_right (by decide) hh
 have Cn:IntKind.i64.wrap (1*2^min (wv (u64 (h:Int))).toNat IntKind.i64.bits)=((2^h:Nat):Int):=by
  rcases (aj:h=0∨h=1∨h=2∨h=3∨h=4) with rfl|rfl|rfl|rfl|rfl<;>decide +kernel
 have JN:(0:Int)≤wv (u64 (h:Int)):=Int.natCast_nonneg _
 refine zO Tryz.func55 52<|zq<|zS<|zP 1 [yH ([(1,yV (ao (!decide (bB (↑h:Int))))),(6,{b:=false}),(10,{av:=some (aw (u64 (↑h:Int))),g:=false}),(11,{av:=some (ai (↑((2:Nat)^h):Int)),g:=false}),(13,{b:=false})]++yg [4,5,8,9,12])] [.aa [25,9,8,0,1,2,3] [8]] ([yI (b_ ((↑h:Int)))]++yM 3 (yB ((!!decide (bB (↑h:Int)))=false) (by simp_all))++yM 3 (yR false)++ [yI (aY ((↑h:Int))),yR false,yB (ai (IntKind.i64.wrap ((1:Int)*(2:Int)^min (wv (u64 (↑h:Int))).toNat IntKind.i64.bits))=ai (↑((2:Nat)^h):Int)) (congrArg (fun n=>AV.val (.int .i64 n)) Cn),yI JN,yR false,yR false])<|dt 25 ((↑leaf:Int)≥(↑((2:Nat)^h):Int))<|a_<|zP 1 [yH [(4,yV (AV.own 1 (ah (bU seed (↑leaf:Int) m 18))))]] [.aa [10,25,9,8,0,1,2,3] [10,31,8]] [yI (xm seed ((↑leaf:Int)) m),yB (ll (ah (bU seed (↑leaf:Int) m 18))) (gn _),yL 3 3]<|zS<|zq<|zB 0<|bf.oQ (bS.Lm 10 2 49 1 (r:=⟨1,false,true,[ai leaf,.ref 31,.nil]⟩) bk rfl rfl bk) (zL (fun (k:Nat)=>(⟨[(10,AV.addr 10 0),(25,ao (decide ((↑leaf:Int)≥(↑((2:Nat)^h):Int)))),(9,ai 0),(8,AV.addr 8 0),(0,aw seed),(1,ai ↑h),(2,ai ↑leaf),(3,aw m),(11,ai k)],[(8,⟨1,false,true,[ai 0,AV.nil,AV.nil]⟩),(31,⟨1,true,false,ah (bU seed (↑leaf:Int) m 18)⟩),(10,⟨1,false,true,[ai leaf,AV.ref 31,AV.ref 49]⟩),(49,⟨1,true,false,ah (dp seed leaf k)⟩)]⟩:AS)) (fun k=>(k≤h)) (fun k=>(h-k)) (0) ?_ (zW [.aa [10,25,9,8,0,1,2,3,11] [8,31,10,49]]) ?_)
 ·omega
 intro k hk
 refine zS<|bf.jX 1 [{}] [.aa [35,10,25,9,8,0,1,2,3,11] [8,31,10,49]] bk (s':=AS.mk [(35,ao (decide ((↑k:Int)<(↑h:Int)))),(10,AV.addr 10 0),(25,ao (decide ((↑leaf:Int)≥(↑((2:Nat)^h):Int)))),(9,ai 0),(8,AV.addr 8 0),(0,aw seed),(1,ai ↑h),(2,ai ↑leaf),(3,aw m),(11,ai ↑k)] [(8,Row.mk 1 false true [ai 0,AV.nil,AV.nil]),(31,Row.mk 1 true false (ah (bU seed (↑leaf:Int) m 18))),(10,Row.mk 1 false true [ai ↑leaf,AV.ref 31,AV.ref 49]),(49,Row.mk 1 true false (ah (dp seed leaf k)))]) (C:=[]) bk trivial (zD 35 ((↑k:Int)<(↑h:Int)) (fun g=>?_) (fun g=>?_))
 ·have AD:k≤4:=aj
  have hs:=zp leaf k AD
  have hle:leaf/2^k≤leaf:=Nat.div_le_self ..
  have hq:leaf/2^k<16:=aj
  have hx:=DD _ hq
  have dj:=L9 _ hq
  have ep:=t_ seed leaf k
  have MJ:(0:Int)≤wv (u64 (k:Int)):=Int.natCast_nonneg _
  have hn:=rU seed k (leaf/2^k^^^1) AD (Nat.lt_of_lt_of_le dj (Nat.le_trans (by decide:16≤2^36) (Nat.pow_le_pow_right (by decide) aj)))
  generalize leaf/2^k^^^1=x at *
  generalize fU seed k x=r at *
  generalize leaf/2^k=q at *
  refine a_<|zS<|zB 1<|zX ({hs:=[(6,yV (aw (u64 (↑k:Int)))),(7,yV (ai ↑q)),(8,yV (ai ↑x)),(9,yV (aw r)),(10,yV (AV.arr (ah [r]))),(11,yV (AV.arr (ah (dp seed leaf k++ [r]))))],T:=11}) [yI (aY ((↑k:Int))),yB (ai ((↑leaf:Int).fdiv ((2:Int)^min (wv (u64 (↑k:Int))).toNat IntKind.i64.bits))=ai ↑q) (congrArg (fun n=>AV.val (.int .i64 n)) hs),yI MJ,yB (ai (IntKind.i64.wrap (↑(BitVec.ofInt IntKind.i64.bits (↑q:Int)^^^BitVec.ofInt IntKind.i64.bits (1:Int)).toNat:Int))=ai ↑x) (congrArg (fun n=>AV.val (.int .i64 n)) hx),yI hn,yR [aw r],yB (ah (dp seed leaf k)++ah [r]=ah (dp seed leaf k++ [r])) (jf _ _),yB (((ah (dp seed leaf k)).length+1)*8≤140737488355328) (by simp only [aC,qV];omega),yL 3 3]<|aL<|aq<|zX (yH [(1,yV (ai ((↑k:Int)+1)))]) [yN ((↑k:Int)+1)] (aK (k+1) aj aj (eQ [.aa [10,25,9,8,0,1,2,3,11] [8,31,10,49]] [] [49] [yB (ah (dp seed leaf k++ [r])=ah (dp seed leaf (k+1))) (congrArg ah ep.symm)]))
 ·have e:k=h:=aj
  subst e
  refine zE 0<|ba<|aS<|br<|aq<|zP 1 [{}] [.aa [9,35,10,25,8,0,1,2,3,11] [8,31,10,49]] [yL 3 3]<|zR (bR)
def i7 (h leaf:Int):Prop:=bB h∨leaf<0∨((2^h.toNat:Nat):Int)≤leaf
instance (h leaf:Int):Decidable (i7 h leaf):=by unfold i7;infer_instance
def wi (h leaf:Int):Int:=if i7 h leaf then 9 else 0
def oU (h leaf:Int):Int:=if i7 h leaf then 0 else leaf
def ox (seed:UInt64) (h leaf:Int) (m:UInt64):List UInt64:=if i7 h leaf then [] else bU seed leaf m 18
def ow (seed:UInt64) (h leaf:Int):List UInt64:=if i7 h leaf then [] else dp seed leaf.toNat h.toNat
theorem rT (seed:UInt64) (h leaf:Int) (m:UInt64):bL Tryz.prog 55 [aw seed,ai h,ai leaf,aw m] (.bt [.agg [ai (oU h leaf),.own 1 (ah (ox seed h leaf m)),.own 1 (ah (ow seed h leaf))],ai (wi h leaf)]):=by
 by_cases e_:i7 h leaf
 ·have e1:wi h leaf=9:=if_pos e_
  have e2:oU h leaf=0:=if_pos e_
  have e3:ox seed h leaf m= []:=if_pos e_
  have e4:ow seed h leaf= []:=if_pos e_
  rw [e1,e2,e3,e4]
  unfold i7 at e_
  by_cases hb:bB h
  ·refine zO Tryz.func55 52<|zq<|zS<|zP 1 [yH [(1,yV (ao (!decide (bB h))))]] [.aa [25,9,8,0,1,2,3] [8]] ([yI (b_ h)]++yM 3 (yB ((!!decide (bB h))=true) (by simp_all))++yM 6 (yR true))<|zT 25<|zP 1 [{}] [.aa [9,25,8,0,1,2,3] [8]] [yL 3 3]<|dn (bR)
  have rj:0≤h∧h≤4:=by unfold bB at hb;omega
  obtain ⟨k,rfl⟩:=Int.eq_ofNat_of_zero_le rj.1
  rw [Int.toNat_natCast] at e_
  by_cases dj:leaf<0
  ·refine zO Tryz.func55 52<|zq<|zS<|zP 1 [yH ([(1,yV (ao (!decide (bB (↑k:Int))))),(6,{b:=false})]++yg [4,5])] [.aa [25,9,8,0,1,2,3] [8]] ([yI (b_ ((↑k:Int)))]++yM 3 (yB ((!!decide (bB (↑k:Int)))=false) (by simp_all))++yM 6 (yT (leaf<0)))<|zT 25<|zP 1 [{}] [.aa [9,25,8,0,1,2,3] [8]] [yL 3 3]<|dn (bR)
  have uI:((2^k:Nat):Int)≤leaf:=by rcases e_ with h|h|h<;>first|exact absurd h hb|exact absurd h dj|exact h
  have hp:2^k≤16:=Nat.pow_le_pow_right (by decide) (by omega:k≤4)
  have Cn:IntKind.i64.wrap (1*2^min (wv (u64 (k:Int))).toNat IntKind.i64.bits)=((2^k:Nat):Int):=by
   rcases (aj:k=0∨k=1∨k=2∨k=3∨k=4) with rfl|rfl|rfl|rfl|rfl<;>decide +kernel
  have JN:(0:Int)≤wv (u64 (k:Int)):=Int.natCast_nonneg _
  generalize 2^k=p2 at *
  refine zO Tryz.func55 52<|zq<|zS<|zP 1 [yH ([(1,yV (ao (!decide (bB (↑k:Int))))),(6,{b:=false}),(10,{av:=some (aw (u64 (↑k:Int))),g:=false}),(11,{av:=some (ai ↑p2),g:=false}),(13,{b:=false})]++yg [4,5,8,9,12])] [.aa [25,9,8,0,1,2,3] [8]] ([yI (b_ ((↑k:Int)))]++yM 3 (yB ((!!decide (bB (↑k:Int)))=false) (by simp_all))++yM 3 (yF (leaf<0))++ [yI (aY ((↑k:Int))),yF (leaf<0),yB (ai (IntKind.i64.wrap ((1:Int)*(2:Int)^min (wv (u64 (↑k:Int))).toNat IntKind.i64.bits))=ai ↑p2) (congrArg (fun n=>AV.val (.int .i64 n)) Cn),yI JN]++yM 2 (yF (leaf<0)))<|gU 25 (leaf≥(↑p2:Int))<|zP 1 [{}] [.aa [9,25,8,0,1,2,3] [8]] [yL 3 3]<|dn (bR)
 ·have e1:wi h leaf=0:=if_neg e_
  have e2:oU h leaf=leaf:=if_neg e_
  have e3:ox seed h leaf m=bU seed leaf m 18:=if_neg e_
  have e4:ow seed h leaf=dp seed leaf.toNat h.toNat:=if_neg e_
  rw [e1,e2,e3,e4]
  unfold i7 bB at e_
  have rj:0≤h∧h≤4∧0≤leaf:=aj
  obtain ⟨k,rfl⟩:=Int.eq_ofNat_of_zero_le rj.1
  obtain ⟨i,rfl⟩:=Int.eq_ofNat_of_zero_le rj.2.2
  rw [Int.toNat_natCast,Int.toNat_natCast]
  rw [Int.toNat_natCast] at e_
  exact BU seed k i m aj aj
theorem G3 (seed:UInt64) (h leaf:Int) (m:UInt64) (e_:i7 h leaf):bL Tryz.prog 51 [aw seed,ai h,ai leaf,aw m] (.bt [.agg [ai 0,.sl 1 (ah []),.own 1 (ah [])],ai 9]):=by
 unfold i7 at e_
 by_cases hb:bB h
 ·refine zO Tryz.func51 48<|zq<|zS<|zP 1 [yH [(1,yV (ao (decide (bB h))))]] [.aa [19,9,8,6,5,0,1,2,3] [8,6,5]] ([yI (h_ h)]++yM 4 (yT (bB h)))<|zT 19<|zP 1 [{}] [.aa [9,19,8,6,5,0,1,2,3] [8,6,5]] [yL 3 3]<|dn (bR)
 have rj:0≤h∧h≤4:=by unfold bB at hb;omega
 obtain ⟨k,rfl⟩:=Int.eq_ofNat_of_zero_le rj.1
 rw [Int.toNat_natCast] at e_
 have ho:leaf<0∨((2^k:Nat):Int)≤leaf:=e_.resolve_left hb
 have hk:k≤4:=aj
 refine zO Tryz.func51 48<|zq<|zS<|zP 1 [yH ([(1,yV (ao (decide (bB (↑k:Int))))),(5,{av:=some (ao (decide (leaf<0∨(↑((2:Nat)^k):Int)≤leaf))),g:=false}),(6,{b:=false})]++yg [3,4])] [.aa [19,9,8,6,5,0,1,2,3] [8,6,5]] ([yI (h_ ((↑k:Int)))]++yM 3 (yF (bB (↑k:Int)))++ [yI (iB leaf k hk),yF (bB (↑k:Int))])<|gU 19 (leaf<0∨(↑((2:Nat)^k):Int)≤leaf)<|zP 1 [{}] [.aa [9,19,8,6,5,0,1,2,3] [8,6,5]] [yL 3 3]<|dn (bR)
def qN (seed:UInt64) (h leaf:Nat) (x:AV) (i:Nat):List (Nat×Row) :=
 [(1000000000005,⟨1,false,true,[ai (h:Int)]⟩),(1000000000006,⟨1,false,true,[ai (leaf:Int)]⟩),(1000000000008,⟨1,false,true,[ai 0,.nil,.nil]⟩),(1000000000010,⟨1,false,true,[ai (leaf:Int),x,.ref 49]⟩),(49,⟨1,true,false,ah (dp seed leaf (min i h))⟩)]
def zo (seed:UInt64) (h:Nat) (m:UInt64):List (Nat×AV) :=
 [(29,.lK 142 [.ptr [ai (h:Int)] 0,.ptr [aw seed] 0]),(10,.addr 1000000000010 0),(9,ai 0),(8,.addr 1000000000008 0),(6,.addr 1000000000006 0),(5,.addr 1000000000005 0),(0,aw seed),(3,aw m)]
theorem zn (seed:UInt64) (h leaf:Nat) (m:UInt64) (L:List AV) (i:Nat) (v:Value):DB [(v,.sl 1 L)] ⟨zo seed h m,qN seed h leaf (.val v) i⟩ ⟨zo seed h m,qN seed h leaf (.sl 1 L) i⟩:=by
 intro Z w0 n a w φ hs hr
 have h1:=hs.close_ 1000000000010 1 (r:=⟨1,false,true,[ai (leaf:Int),.val v,.ref 49]⟩) (x:=.sl 1 L) (v:=v) rfl rfl rfl (hr (v,.sl 1 L) (by simp))
 refine h1.congr fun i'=>?_
 show look (qN seed h leaf (.sl 1 L) i) i'=look ((1000000000010,⟨1,false,true,[ai (leaf:Int),.sl 1 L,.ref 49]⟩):: [(1000000000005,⟨1,false,true,[ai (h:Int)]⟩),(1000000000006,⟨1,false,true,[ai (leaf:Int)]⟩),(1000000000008,⟨1,false,true,[ai 0,.nil,.nil]⟩),(49,⟨1,true,false,ah (dp seed leaf (min i h))⟩)]) i'
 unfold qN
 simp only [aD]
 by_cases e:1000000000010=i'
 ·subst e;rfl
 ·simp only [e,if_false]
theorem G5 (seed:UInt64) (h leaf:Nat) (m:UInt64) (L:List AV) (Z:bo) (w0:World) (n:Nat) (a:Act) (w:World) (φ:Nat->Option Nat) (hs:aJ Z w0 n [] (AS.mk (zo seed h m) [(1000000000005,⟨1,false,true,[ai (h:Int)]⟩),(1000000000006,⟨1,false,true,[ai (leaf:Int)]⟩),(1000000000008,⟨1,false,true,[ai 0,.nil,.nil]⟩),(1000000000010,⟨1,false,true,[ai (leaf:Int),.sl 1 L,.nil]⟩)]) a w φ) :
  ∃(j7:Nat->Option Nat) (vs:List Value),vs.length= [AV.sl 1 L].length∧aJ Z w0 n [] ⟨zo seed h m,qN seed h leaf (.val (vs.headD default)) 0⟩ a w j7∧ ∀p∈vs.zip [AV.sl 1 L],cB (aM Z w j7 []) w p.1 p.2:=by
 obtain ⟨j7,h2⟩:=(bS.Lm 1000000000010 2 49 1 (r:=⟨1,false,true,[ai (leaf:Int),.sl 1 L,.nil]⟩) rfl rfl rfl rfl) Z w0 n a w ⟨φ,hs⟩
 obtain ⟨v,h3,hr⟩:=h2.open_ 1000000000010 1 (r:=⟨1,false,true,[ai (leaf:Int),.sl 1 L,.ref 49]⟩) (x:=.sl 1 L) rfl rfl rfl rfl
 refine ⟨j7,[v],rfl,h3.congr fun i'=>?_,fun p hp=>?_⟩
 ·show look (qN seed h leaf (.val v) 0) i'=look [(1000000000010,⟨1,false,true,[ai (leaf:Int),.val v,.ref 49]⟩),(49,⟨1,true,false,[]⟩),(1000000000005,⟨1,false,true,[ai (h:Int)]⟩),(1000000000006,⟨1,false,true,[ai (leaf:Int)]⟩),(1000000000008,⟨1,false,true,[ai 0,.nil,.nil]⟩)] i'
  have e0:ah (dp seed leaf (min 0 h))= []:=by simp [dp,ah]
  unfold qN
  rw [e0]
  simp only [aD]
  by_cases e:1000000000010=i'
  ·subst e;rfl
  ·simp only [e,if_false]
   by_cases e:49=i'
   ·subst e;rfl
   ·simp only [e,if_false]
 ·obtain rfl:p=(v,.sl 1 L):=by simpa using hp
  exact hr
theorem wh (leaf k:Nat) (hk:k≤4):((leaf:Int)).fdiv (2^min ((k:Int)).toNat IntKind.i64.bits)=((leaf/2^k:Nat):Int):=by
 have e:(2:Int)^min ((k:Int)).toNat IntKind.i64.bits=((2^k:Nat):Int):=by
  rcases (aj:k=0∨k=1∨k=2∨k=3∨k=4) with rfl|rfl|rfl|rfl|rfl<;>decide +kernel
 rw [e,Int.fdiv_eq_ediv_of_nonneg _ (Int.natCast_nonneg _)];rfl
theorem GD (q m:Nat) (hm:m≤8) (hq:q<2*m):q^^^1<2*m:=by
 have key:∀m:Fin 9,∀q:Fin 16,q.val<2*m.val->q.val^^^1<2*m.val:=by decide +kernel
 exact key ⟨m,aj⟩ ⟨q,aj⟩ hq
theorem J7 (seed:UInt64) (h leaf:Nat) (m:UInt64) (hh:h≤4) (hl:leaf<2^h):bL Tryz.prog 51 [aw seed,ai h,ai leaf,aw m] (.bt [.agg [ai leaf,.sl 1 (ah (bU seed leaf m 18)),.own 1 (ah (dp seed leaf h))],ai 0]):=by
 have hb:¬bB (h:Int):=by unfold bB;omega
 have hp:2^h≤16:=Nat.pow_le_pow_right (by decide) hh
 have ho:¬((leaf:Int)<0∨((2^h:Nat):Int)≤leaf):=aj
 refine zO Tryz.func51 48<|zq<|zS<|zP 1 [yH ([(1,yV (ao (decide (bB (↑h:Int))))),(5,{av:=some (ao (decide ((↑leaf:Int)<0∨(↑((2:Nat)^h):Int)≤(↑leaf:Int)))),g:=false}),(6,{b:=false})]++yg [3,4])] [.aa [19,9,8,6,5,0,1,2,3] [8,6,5]] ([yI (h_ ((↑h:Int)))]++yM 3 (yF (bB (↑h:Int)))++ [yI (iB ((↑leaf:Int)) h hh),yF (bB (↑h:Int))])<|dt 19 ((↑leaf:Int)<0∨(↑((2:Nat)^h):Int)≤(↑leaf:Int))<|a_<|zS<|y8 7 [6] [(4,yV (AV.own 1 (ah (bU seed (↑leaf:Int) m 18))))] [yI (wg seed ((↑leaf:Int)) m),yB (ll (ah (bU seed (↑leaf:Int) m 18))) (gn _),yR (ai ↑leaf),yR (aw seed),yR (ai ↑leaf),yR (aw m),yR (AV.sl 1 (ah (bU seed (↑leaf:Int) m 18))),yI (wg seed ((↑leaf:Int)) m),yB (ll (ah (bU seed (↑leaf:Int) m 18))) (gn _),yR (AV.agg [ai ↑leaf,AV.sl 1 (ah (bU seed (↑leaf:Int) m 18)),AV.nil]),yL 3 3]<|aq<|bf.sU [.aa [10,19,9,8,6,5,0,1,2,3] [10,8,6,5]] bk<|zS<|zP 1 [yH [(2,{av:=some (AV.lK 142 [AV.ptr [ai ↑h] 0,AV.ptr [aw seed] 0]),b:=false})]] [.aa [29,10,19,9,8,6,5,0,1,2,3] [10,8,6,5]] [yI (Cg seed ((↑h:Int)))]<|zB 0 ?_
 refine bf.My bk _ _ (An seed h hh) bk bk bk [(5,1000000000005),(6,1000000000006),(8,1000000000008),(10,1000000000010)] bk [.sl 1 (ah (bU seed leaf m 18))]
  (zo seed h m) (fun vs i=>qN seed h leaf (.val (vs.headD default)) i) ⟨zo seed h m,qN seed h leaf (.sl 1 (ah (bU seed leaf m 18))) (h+1)⟩
  (fun Z w0 a w φ hs=>?_) (fun vs _=>by kernel_rfl) (fun _=>by kernel_rfl) bk (fun vs i _ _=>⟨eD (iF rfl) (eD (iF rfl) (eD (iF rfl) (eD (iF rfl) (eD (qs _) vh)))),by kernel_rfl⟩) (fun vs i hv hi=>?_) (fun vs hv=>?_) ?_
 ·obtain ⟨iI,h1⟩:=(zW [.aa [29,10,9,8,6,5,0,3] [1000000000005,1000000000006,1000000000008,1000000000010]]) Z w0 48 a w ⟨φ,hs⟩
  exact G5 seed h leaf m _ Z w0 48 a w iI h1
 ·obtain ⟨v,rfl⟩:=List.length_eq_one_iff.1 hv
  refine bf.QO (AS.mk ([(31,.sl 1 (ah (kN seed h i))),(30,ai (i:Int))]++zo seed h m) [(1000000000005,⟨1,false,true,[ai (h:Int)]⟩),(1000000000006,⟨1,false,true,[ai (leaf:Int)]⟩),(1000000000008,⟨1,false,true,[ai 0,.nil,.nil]⟩),(1000000000010,⟨1,false,true,[ai (leaf:Int),.val v,.ref 49]⟩),(49,⟨1,true,false,ah (dp seed leaf (min i h))⟩)]) bk ?_
  rw [show min i h=i by omega]
  refine bf.QO (AS.mk [(31,.sl 1 (ah (kN seed h i))),(30,ai (i:Int)),(29,.lK 142 [.ptr [ai (h:Int)] 0,.ptr [aw seed] 0]),(10,.addr 1000000000010 0),(9,ai 0),(8,.addr 1000000000008 0),(6,.addr 1000000000006 0),(5,.addr 1000000000005 0),(0,aw seed),(3,aw m)] [(1000000000005,⟨1,false,true,[ai (h:Int)]⟩),(1000000000006,⟨1,false,true,[ai (leaf:Int)]⟩),(1000000000008,⟨1,false,true,[ai 0,.nil,.nil]⟩),(1000000000010,⟨1,false,true,[ai (leaf:Int),.val v,.ref 49]⟩),(49,⟨1,true,false,ah (dp seed leaf i)⟩)]) bk<|zq<|zX {} []<|aq<|zB 1<|zS<|zP 1 [{}] [.aa [34,12,11,31,30,29,10,9,8,6,5,0,3] [1000000000005,1000000000006,1000000000008,1000000000010,49]] [] (bf.Jp (x:=.tmp 34) (u:=(↑i:Int)) (v:=(↑h:Int)) bk bk (fun g=>?_) (fun g=>?_))
  ·have e:i=h:=aj
   subst e
   refine zE 0<|ba<|OY bk ?_
   refine ⟨qN seed i leaf (.val v) (i+1),⟨zo seed i m,qN seed i leaf (.sl 1 (ah (bU seed leaf m 18))) (i+1)⟩,eD (iF rfl) (eD (iF rfl) (eD (iF rfl) (eD (iF rfl) (eD (qs _) vh)))),by kernel_rfl,
    bS.of [.aa [] [1000000000005,1000000000006,1000000000008,1000000000010,49]] (s1:=AS.mk [] [(1000000000005,⟨1,false,true,[ai (i:Int)]⟩),(1000000000006,⟨1,false,true,[ai (leaf:Int)]⟩),(1000000000008,⟨1,false,true,[ai 0,.nil,.nil]⟩),(1000000000010,⟨1,false,true,[ai (leaf:Int),.val v,.ref 49]⟩),(49,⟨1,true,false,ah (dp seed leaf i)⟩)]) bk (by unfold qN;rw [show min (i+1) i=i by omega]),zn seed i leaf m _ (i+1) v,br (aq ?_)⟩
   refine bf.QO (AS.mk [(29,.lK 142 [.ptr [ai (i:Int)] 0,.ptr [aw seed] 0]),(10,.addr 10 0),(9,ai 0),(8,.addr 8 0),(6,.addr 6 0),(5,.addr 5 0),(0,aw seed),(3,aw m)] [(5,⟨1,false,true,[ai (i:Int)]⟩),(6,⟨1,false,true,[ai (leaf:Int)]⟩),(8,⟨1,false,true,[ai 0,.nil,.nil]⟩),(10,⟨1,false,true,[ai (leaf:Int),.sl 1 (ah (bU seed leaf m 18)),.ref 49]⟩),(49,⟨1,true,false,ah (dp seed leaf (min (i+1) i))⟩)]) bk ?_
   rw [show min (i+1) i=i by omega]
   refine bf.jX 1 [{}] [.aa [9,29,10,8,6,5,0,3] [8,5,6,10,49]] bk (s':=AS.mk [(9,ai 0),(29,AV.lK 142 [AV.ptr [ai ↑i] 0,AV.ptr [aw seed] 0]),(10,AV.addr 10 0),(8,AV.addr 8 0),(6,AV.addr 6 0),(5,AV.addr 5 0),(0,aw seed),(3,aw m)] [(8,Row.mk 1 false true [ai ↑leaf,AV.sl 1 (ah (bU seed (↑leaf:Int) m 18)),AV.ref 49]),(5,Row.mk 1 false true [ai ↑i]),(6,Row.mk 1 false true [ai ↑leaf]),(10,Row.mk 1 false true [ai ↑leaf,AV.sl 1 (ah (bU seed (↑leaf:Int) m 18)),AV.ref 49]),(49,Row.mk 1 true false (ah (dp seed leaf i)))]) (C:=[3≤3]) bk ⟨aj,trivial⟩<|zR (bR)
  ·have AD:i≤4:=aj
   have hs:=wh leaf i AD
   have hle:leaf/2^i≤leaf:=Nat.div_le_self ..
   have hq:leaf/2^i<16:=aj
   have hx:=DD _ hq
   have em:2^(h-i)=2*2^(h-(i+1)):=by rw [show h-i=h-(i+1)+1 by omega,Nat.pow_succ,Nat.mul_comm]
   have Uy:2^(h-(i+1))≤8:=Nat.le_trans (Nat.pow_le_pow_right (by decide) (by omega:h-(i+1)≤3)) (by decide)
   have hdiv:leaf/2^i<2^(h-i):=by
    rw [Nat.div_lt_iff_lt_mul (Nat.two_pow_pos _),←Nat.pow_add,show h-i+i=h by omega];exact hl
   have Ei:leaf/2^i^^^1<2^(h-i):=by rw [em];exact GD _ _ Uy aj
   have gN:=p7 seed h i _ Ei
   have uG:=pZ seed h i
   have ep:=t_ seed leaf i
   have oO:=qV seed leaf i
   have Cp:min (i+1) h=i+1:=aj
   generalize leaf/2^i^^^1=x at *
   generalize leaf/2^i=q at *
   generalize kN seed h i=L at *
   generalize 2^(h-i)=c at *
   refine a_<|zX ({hs:=[(5,yV (ai ↑q)),(6,yV (ai ↑x)),(7,{k:=x}),(8,yV (aw (L.getD x 0))),(9,yV (AV.arr (ah [L.getD x 0]))),(10,yV (AV.arr (ah (dp seed leaf i++ [L.getD x 0]))))],T:=10}) [yB (ai ((↑leaf:Int).fdiv ((2:Int)^min (↑i:Int).toNat IntKind.i64.bits))=ai ↑q) (congrArg (fun n=>AV.val (.int .i64 n)) hs),yO ((0:Int)≤(↑i:Int)),yB (ai (IntKind.i64.wrap (↑(BitVec.ofInt IntKind.i64.bits (↑q:Int)^^^BitVec.ofInt IntKind.i64.bits (1:Int)).toNat:Int))=ai ↑x) (congrArg (fun n=>AV.val (.int .i64 n)) hx),yR (↑x:Int),yB (x<(ah L).length) (by simp only [aC];omega),yB ((ah L)[x]?=some (aw (L.getD x 0))) (eE aj),yR [aw (L.getD x 0)],yB (ah (dp seed leaf i)++ah [L.getD x 0]=ah (dp seed leaf i++ [L.getD x 0])) (jf _ _),yB (((ah (dp seed leaf i)).length+1)*8≤140737488355328) (by simp only [aC];omega),yL 3 3]<|aL ?_
   exact bS.of [.vp 45 49,.aa [] [1000000000005,1000000000006,1000000000008,1000000000010,49]] (s1:=AS.mk [] [(1000000000005,⟨1,false,true,[ai (h:Int)]⟩),(1000000000006,⟨1,false,true,[ai (leaf:Int)]⟩),(1000000000008,⟨1,false,true,[ai 0,.nil,.nil]⟩),(1000000000010,⟨1,false,true,[ai (leaf:Int),.val v,.ref 49]⟩),(49,⟨1,true,false,ah (dp seed leaf i++ [L.getD x 0])⟩)]) bk (by unfold qN;rw [Cp,ep,gN];rfl)
 ·obtain ⟨v,rfl⟩:=List.length_eq_one_iff.1 hv
  exact zn seed h leaf m _ (h+1) v
 ·refine aL (aq ?_)
  refine bf.QO (AS.mk [(29,.lK 142 [.ptr [ai (h:Int)] 0,.ptr [aw seed] 0]),(10,.addr 10 0),(9,ai 0),(8,.addr 8 0),(6,.addr 6 0),(5,.addr 5 0),(0,aw seed),(3,aw m)] [(5,⟨1,false,true,[ai (h:Int)]⟩),(6,⟨1,false,true,[ai (leaf:Int)]⟩),(8,⟨1,false,true,[ai 0,.nil,.nil]⟩),(10,⟨1,false,true,[ai (leaf:Int),.sl 1 (ah (bU seed leaf m 18)),.ref 49]⟩),(49,⟨1,true,false,ah (dp seed leaf (min (h+1) h))⟩)]) bk ?_
  rw [show min (h+1) h=h by omega]
  refine zP 1 [{}] [.aa [9,29,10,8,6,5,0,3] [8,5,6,10,49]] [yL 3 3]<|zR (bR)
theorem G2 (seed:UInt64) (h leaf:Int) (m:UInt64):bL Tryz.prog 51 [aw seed,ai h,ai leaf,aw m] (.bt [.agg [ai (oU h leaf),.sl 1 (ah (ox seed h leaf m)),.own 1 (ah (ow seed h leaf))],ai (wi h leaf)]):=by
 by_cases e_:i7 h leaf
 ·have e1:wi h leaf=9:=if_pos e_
  have e2:oU h leaf=0:=if_pos e_
  have e3:ox seed h leaf m= []:=if_pos e_
  have e4:ow seed h leaf= []:=if_pos e_
  rw [e1,e2,e3,e4]
  exact G3 seed h leaf m e_
 ·have e1:wi h leaf=0:=if_neg e_
  have e2:oU h leaf=leaf:=if_neg e_
  have e3:ox seed h leaf m=bU seed leaf m 18:=if_neg e_
  have e4:ow seed h leaf=dp seed leaf.toNat h.toNat:=if_neg e_
  rw [e1,e2,e3,e4]
  unfold i7 bB at e_
  have rj:0≤h∧h≤4∧0≤leaf:=aj
  obtain ⟨k,rfl⟩:=Int.eq_ofNat_of_zero_le rj.1
  obtain ⟨i,rfl⟩:=Int.eq_ofNat_of_zero_le rj.2.2
  rw [Int.toNat_natCast,Int.toNat_natCast]
  rw [Int.toNat_natCast] at e_
  exact J7 seed k i m aj aj
def dA (leaf:Nat) (P:List UInt64) (x:UInt64):Nat->UInt64
 | 0=>x
 | k+1=>if leaf/2^k%2=0 then gR ((k+1:Nat):Int) (dA leaf P x k) (P.getD k 0) else gR ((k+1:Nat):Int) (P.getD k 0) (dA leaf P x k)
def ky (h:Int) (r m:UInt64) (leaf:Int) (C P:List UInt64):Int :=
 if i7 h leaf then 9 else if C.length≠18∨(P.length:Int)≠h then 4 else if dA leaf.toNat P (combine leaf (cO leaf m C 18)) h.toNat=r then 0 else 15
theorem EM (q:Nat) (hq:q<16):IntKind.i64.wrap ((BitVec.ofInt IntKind.i64.bits (q:Int)&&&BitVec.ofInt IntKind.i64.bits 1).toNat:Nat)=((q%2:Nat):Int):=by
 have key:∀q:Fin 16,IntKind.i64.wrap ((BitVec.ofInt IntKind.i64.bits ((q.val:Nat):Int)&&&BitVec.ofInt IntKind.i64.bits 1).toNat:Nat)=((q.val%2:Nat):Int):=by decide +kernel
 exact key ⟨q,hq⟩
theorem BD (h:Int) (r m:UInt64) (leaf:Int) (C P:List UInt64):bL Tryz.prog 104 [.agg [ai h,aw r],aw m,.agg [ai leaf,.sl 1 (ah C),.sl 1 (ah P)]] (ai (ky h r m leaf C P)):=by
 by_cases e_:i7 h leaf
 ·have e1:ky h r m leaf C P=9:=if_pos e_
  rw [e1]
  unfold i7 at e_
  by_cases hb:bB h
  ·refine zO Tryz.func104 74<|zq<|zS<|zP 1 [yH [(2,yV (ao (decide (bB h))))]] [.aa [20,6,5,3,0,1,2] [5,3]] ([yI (h_ h)]++yM 6 (yT (bB h)))<|zT 20<|zq<|dn (bR)
  have rj:0≤h∧h≤4:=by unfold bB at hb;omega
  obtain ⟨k,rfl⟩:=Int.eq_ofNat_of_zero_le rj.1
  rw [Int.toNat_natCast] at e_
  have ho:leaf<0∨((2^k:Nat):Int)≤leaf:=e_.resolve_left hb
  have hk:k≤4:=aj
  refine zO Tryz.func104 74<|zq<|zS<|zP 1 [yH ([(2,yV (ao (decide (bB (↑k:Int))))),(8,{av:=some (ao (decide (leaf<0∨(↑((2:Nat)^k):Int)≤leaf))),g:=false}),(9,{b:=false})]++yg [4,5,6,7])] [.aa [20,6,5,3,0,1,2] [5,3]] ([yI (h_ ((↑k:Int)))]++yM 5 (yF (bB (↑k:Int)))++ [yI (iB leaf k hk),yF (bB (↑k:Int))])<|gU 20 (leaf<0∨(↑((2:Nat)^k):Int)≤leaf)<|zq<|dn (bR)
 have hv:ky h r m leaf C P=if C.length≠18∨(P.length:Int)≠h then 4 else if dA leaf.toNat P (combine leaf (cO leaf m C 18)) h.toNat=r then 0 else 15:=if_neg e_
 unfold i7 bB at e_
 have rj:0≤h∧h≤4∧0≤leaf:=aj
 obtain ⟨k,rfl⟩:=Int.eq_ofNat_of_zero_le rj.1
 obtain ⟨i,rfl⟩:=Int.eq_ofNat_of_zero_le rj.2.2
 rw [Int.toNat_natCast] at e_
 rw [Int.toNat_natCast,Int.toNat_natCast] at hv
 have hk:k≤4:=aj
 have hb:¬bB (k:Int):=by unfold bB;omega
 have ho:¬((i:Int)<0∨((2^k:Nat):Int)≤i):=aj
 have hp:2^k≤16:=Nat.pow_le_pow_right (by decide) hk
 rw [hv]
 by_cases hC:C.length=18
 case neg =>
  rw [if_pos (.inl hC)]
  refine zO Tryz.func104 74<|zq<|zS<|zP 1 [yH ([(2,yV (ao (decide (bB (↑k:Int))))),(8,{av:=some (ao (decide ((↑i:Int)<0∨(↑((2:Nat)^k):Int)≤(↑i:Int)))),g:=false}),(9,{b:=false})]++yg [4,5,6,7])] [.aa [20,6,5,3,0,1,2] [5,3]] ([yI (h_ ((↑k:Int)))]++yM 5 (yF (bB (↑k:Int)))++ [yI (iB ((↑i:Int)) k hk),yF (bB (↑k:Int))])<|dt 20 ((↑i:Int)<0∨(↑((2:Nat)^k):Int)≤(↑i:Int))<|a_<|zS<|zP 1 [yH [(2,{k:=C.length})]] [.aa [32,20,6,5,3,0,1,2] [5,3]] ([yB ((ah C).length=C.length) (aC _)]++yM 7 (yB (((↑C.length:Int) != (18:Int))=true) (by simp;omega)))<|zT 32<|zq<|dn (bR)
 by_cases hP:P.length=k
 case neg =>
  rw [if_pos (.inr aj)]
  refine zO Tryz.func104 74<|zq<|zS<|zP 1 [yH ([(2,yV (ao (decide (bB (↑k:Int))))),(8,{av:=some (ao (decide ((↑i:Int)<0∨(↑((2:Nat)^k):Int)≤(↑i:Int)))),g:=false}),(9,{b:=false})]++yg [4,5,6,7])] [.aa [20,6,5,3,0,1,2] [5,3]] ([yI (h_ ((↑k:Int)))]++yM 5 (yF (bB (↑k:Int)))++ [yI (iB ((↑i:Int)) k hk),yF (bB (↑k:Int))])<|dt 20 ((↑i:Int)<0∨(↑((2:Nat)^k):Int)≤(↑i:Int))<|a_<|zS<|zP 1 [yH ([(2,{k:=C.length}),(7,{k:=P.length,g:=false}),(11,{b:=false})]++yg [5,6,8,9,10])] [.aa [32,20,6,5,3,0,1,2] [5,3]] ([yB ((ah C).length=C.length) (aC _)]++yM 3 (yB (((↑C.length:Int) != (18:Int))=false) (by simp_all))++ [yB ((ah P).length=P.length) (aC _)]++yM 4 (yB (((↑C.length:Int) != (18:Int))=false) (by simp_all)))<|dB 32 ((↑P.length:Int) != (↑k:Int)) (by simp;omega)<|zq<|dn (bR)
 rw [if_neg aj]
 have hr:oy i m C=combine i (cO i m C 18):=if_pos hC
 have he:lz C=0:=if_pos hC
 refine zO Tryz.func104 74<|zq<|zS<|zP 1 [yH ([(2,yV (ao (decide (bB (↑k:Int))))),(8,{av:=some (ao (decide ((↑i:Int)<0∨(↑((2:Nat)^k):Int)≤(↑i:Int)))),g:=false}),(9,{b:=false})]++yg [4,5,6,7])] [.aa [20,6,5,3,0,1,2] [5,3]] ([yI (h_ ((↑k:Int)))]++yM 5 (yF (bB (↑k:Int)))++ [yI (iB ((↑i:Int)) k hk),yF (bB (↑k:Int))])<|dt 20 ((↑i:Int)<0∨(↑((2:Nat)^k):Int)≤(↑i:Int))<|a_<|zS<|zP 1 [yH ([(2,{k:=C.length}),(7,{k:=P.length,g:=false}),(11,{b:=false})]++yg [5,6,8,9,10])] [.aa [32,20,6,5,3,0,1,2] [5,3]] ([yB ((ah C).length=C.length) (aC _)]++yM 3 (yB (((↑C.length:Int) != (18:Int))=false) (by simp_all))++ [yB ((ah P).length=P.length) (aC _)]++yM 4 (yB (((↑C.length:Int) != (18:Int))=false) (by simp_all)))<|bn 32 ((↑P.length:Int) != (↑k:Int)) (by simp_all)<|a_<|zP 1 [yH [(5,yV (AV.bt [aw (oy (↑i:Int) m C),ai (lz C)]))]] [.aa [8,7,32,20,6,5,3,0,1,2] [5,3]] [yI (Aa ((↑i:Int)) m C)]<|zS<|zq<|bn 43 (lz C != (0:Int)) (by simp_all)<|a_<|zS<|zP 1 [yH [(2,{k:=P.length})]] [.aa [48,47,46,43,8,7,32,20,6,5,3,0,1,2] [5,3]] [yB ((ah P).length=P.length) (aC _)]<|zB 0 (zL (fun (j:Nat)=>(⟨[(47,ai (↑P.length:Int)),(46,AV.sl 1 (ah P)),(43,ao (lz C != (0:Int))),(8,ai (lz C)),(32,ao ((↑P.length:Int) != (↑k:Int))),(20,ao (decide ((↑i:Int)<0∨(↑((2:Nat)^k):Int)≤(↑i:Int)))),(6,ai 0),(5,AV.addr 5 0),(3,AV.addr 3 0),(0,AV.agg [ai ↑k,aw r]),(1,aw m),(2,AV.agg [ai ↑i,AV.sl 1 (ah C),AV.sl 1 (ah P)]),(48,ai j),(7,aw (dA i P (combine i (cO i m C 18)) j))],[(5,⟨1,false,true,[ai ↑i,AV.sl 1 (ah C),AV.sl 1 (ah P)]⟩),(3,⟨1,false,true,[ai ↑k,aw r]⟩)]⟩:AS)) (fun j=>(j≤k)) (fun j=>(k-j)) (0) ?_ (eQ [.aa [47,46,43,8,32,20,6,5,3,0,1,2,48,7] [5,3]] [7] [] [yB (aw (oy (↑i:Int) m C)=aw (dA i P (combine (↑i:Int) (cO (↑i:Int) m C 18)) 0)) (congrArg aw hr)]) ?_)
 ·omega
 intro j hj
 refine bf.jH 1 [{}] bk (s':=AS.mk [(49,ao (decide ((↑j:Int)<(↑P.length:Int)))),(47,ai (↑P.length:Int)),(46,AV.sl 1 (ah P)),(43,ao (lz C != (0:Int))),(8,ai (lz C)),(32,ao ((↑P.length:Int) != (↑k:Int))),(20,ao (decide ((↑i:Int)<0∨(↑((2:Nat)^k):Int)≤(↑i:Int)))),(6,ai 0),(5,AV.addr 5 0),(3,AV.addr 3 0),(0,AV.agg [ai ↑k,aw r]),(1,aw m),(2,AV.agg [ai ↑i,AV.sl 1 (ah C),AV.sl 1 (ah P)]),(48,ai ↑j),(7,aw (dA i P (combine (↑i:Int) (cO (↑i:Int) m C 18)) j))] [(5,Row.mk 1 false true [ai ↑i,AV.sl 1 (ah C),AV.sl 1 (ah P)]),(3,Row.mk 1 false true [ai ↑k,aw r])]) (C:=[]) bk trivial<|zS (zD 49 ((↑j:Int)<(↑P.length:Int)) (fun g=>?_) (fun g=>?_))
 ·have hs:=wh i j aj
  have hle:i/2^j≤i:=Nat.div_le_self ..
  have hq:i/2^j<16:=aj
  have ha:=EM _ hq
  have MJ:(0:Int)≤wv (u64 (j:Int)):=Int.natCast_nonneg _
  have Rz:IntKind.i64.wrap ((j:Int)+1)=((j+1:Nat):Int):=by rw [fc aj aj];omega
  have hc:dA i P (combine i (cO i m C 18)) (j+1)=if i/2^j%2=0 then gR ((j+1:Nat):Int) (dA i P (combine i (cO i m C 18)) j) (P.getD j 0) else gR ((j+1:Nat):Int) (P.getD j 0) (dA i P (combine i (cO i m C 18)) j):=rfl
  generalize i/2^j=q at *
  generalize hx:dA i P (combine i (cO i m C 18)) j=x at *
  by_cases h2:q%2=0
  ·rw [if_pos h2] at hc
   generalize q%2=q2 at *
   refine a_<|zS<|zB 1<|zP 2 [yH [(1,{k:=j}),(2,yV (aw (P.getD j 0)))],yH [(3,yV (ai ↑q)),(4,yV (ai ↑q2))]] [.aa [58,10,9,49,47,46,43,8,32,20,6,5,3,0,1,2,48,7] [5,3]] [yR (↑j:Int),yB (j<(ah P).length) (by simp only [aC];omega),yB ((ah P)[j]?=some (aw (P.getD j 0))) (eE aj),yB (ai ((↑i:Int).fdiv ((2:Int)^min (↑j:Int).toNat IntKind.i64.bits))=ai ↑q) (congrArg (fun n=>AV.val (.int .i64 n)) hs),yO ((0:Int)≤(↑j:Int)),yB (ai (IntKind.i64.wrap (↑(BitVec.ofInt IntKind.i64.bits (↑q:Int)&&&BitVec.ofInt IntKind.i64.bits (1:Int)).toNat:Int))=ai ↑q2) (congrArg (fun n=>AV.val (.int .i64 n)) ha)]<|dB 58 ((↑q2:Int) == (0:Int)) fg<|zX (yH [(1,yV (ai (↑(j+1):Int))),(4,yV (aw (gR (↑(j+1):Int) x (P.getD j 0))))]) [yB (ai (IntKind.i64.wrap ((↑j:Int)+1))=ai (↑(j+1):Int)) (dK aj aj),yI (pa (↑(j+1):Int) x (P.getD j 0))]<|aL<|aq<|bf.NY {hs:=[(0,{av:=some (ai ((↑j:Int)+1))})]} (s':=AS.mk [(48,ai ((↑j:Int)+1)),(69,ai ((↑j:Int)+1)),(7,aw (gR (↑(j+1):Int) x (P.getD j 0))),(63,aw (gR (↑(j+1):Int) x (P.getD j 0))),(62,aw (P.getD j 0)),(61,aw x),(60,ai (↑(j+1):Int)),(59,ai ↑j),(58,ao ((↑q2:Int) == (0:Int))),(10,aw (P.getD j 0)),(9,ai ↑j),(49,ao (decide ((↑j:Int)<(↑P.length:Int)))),(47,ai (↑P.length:Int)),(46,AV.sl 1 (ah P)),(43,ao (lz C != (0:Int))),(8,ai (lz C)),(32,ao ((↑P.length:Int) != (↑k:Int))),(20,ao (decide ((↑i:Int)<0∨(↑((2:Nat)^k):Int)≤(↑i:Int)))),(6,ai 0),(5,AV.addr 5 0),(3,AV.addr 3 0),(0,AV.agg [ai ↑k,aw r]),(1,aw m),(2,AV.agg [ai ↑i,AV.sl 1 (ah C),AV.sl 1 (ah P)])] [(5,Row.mk 1 false true [ai ↑i,AV.sl 1 (ah C),AV.sl 1 (ah P)]),(3,Row.mk 1 false true [ai ↑k,aw r])]) (C:=[ai (IntKind.i64.wrap ((↑j:Int)+1))=ai ((↑j:Int)+1)]) bk ⟨(dK aj aj),trivial⟩ (aK (j+1) aj aj (eQ [.aa [47,46,43,8,32,20,6,5,3,0,1,2,48,7] [5,3]] [7] [] [yB (aw (gR (↑(j+1):Int) x (P.getD j 0))=aw (dA i P (combine (↑i:Int) (cO (↑i:Int) m C 18)) (j+1))) (by rw [hc])]))
  ·rw [if_neg h2] at hc
   generalize q%2=q2 at *
   refine a_<|zS<|zB 1<|zP 2 [yH [(1,{k:=j}),(2,yV (aw (P.getD j 0)))],yH [(3,yV (ai ↑q)),(4,yV (ai ↑q2))]] [.aa [58,10,9,49,47,46,43,8,32,20,6,5,3,0,1,2,48,7] [5,3]] [yR (↑j:Int),yB (j<(ah P).length) (by simp only [aC];omega),yB ((ah P)[j]?=some (aw (P.getD j 0))) (eE aj),yB (ai ((↑i:Int).fdiv ((2:Int)^min (↑j:Int).toNat IntKind.i64.bits))=ai ↑q) (congrArg (fun n=>AV.val (.int .i64 n)) hs),yO ((0:Int)≤(↑j:Int)),yB (ai (IntKind.i64.wrap (↑(BitVec.ofInt IntKind.i64.bits (↑q:Int)&&&BitVec.ofInt IntKind.i64.bits (1:Int)).toNat:Int))=ai ↑q2) (congrArg (fun n=>AV.val (.int .i64 n)) ha)]<|bn 58 ((↑q2:Int) == (0:Int)) bE<|zX (yH [(1,yV (ai (↑(j+1):Int))),(4,yV (aw (gR (↑(j+1):Int) (P.getD j 0) x)))]) [yB (ai (IntKind.i64.wrap ((↑j:Int)+1))=ai (↑(j+1):Int)) (dK aj aj),yI (pa (↑(j+1):Int) (P.getD j 0) x)]<|aL<|aq<|zX (yH [(0,yV (ai ((↑j:Int)+1)))]) [yN ((↑j:Int)+1)] (aK (j+1) aj aj (eQ [.aa [47,46,43,8,32,20,6,5,3,0,1,2,48,7] [5,3]] [7] [] [yB (aw (gR (↑(j+1):Int) (P.getD j 0) x)=aw (dA i P (combine (↑i:Int) (cO (↑i:Int) m C 18)) (j+1))) (by rw [hc])]))
 ·have e:j=k:=aj
  subst e
  by_cases kf:dA i P (combine i (cO i m C 18)) j=r
  ·rw [if_pos kf]
   refine zE 0<|ba<|aS<|br<|aq<|zS<|zP 1 [yH [(3,yV (ao (dA i P (combine (↑i:Int) (cO (↑i:Int) m C 18)) j != r)))]] [.aa [73,49,47,46,43,8,32,20,6,5,3,0,1,2,48,7] [5,3]] [yI (cN (dA i P (combine (↑i:Int) (cO (↑i:Int) m C 18)) j) r)]<|bn 73 (dA i P (combine (↑i:Int) (cO (↑i:Int) m C 18)) j != r) (by simp_all)<|a_<|zq<|zR (bR)
  ·rw [if_neg kf]
   refine zE 0<|ba<|aS<|br<|aq<|zS<|zP 1 [yH [(3,yV (ao (dA i P (combine (↑i:Int) (cO (↑i:Int) m C 18)) j != r)))]] [.aa [73,49,47,46,43,8,32,20,6,5,3,0,1,2,48,7] [5,3]] [yI (cN (dA i P (combine (↑i:Int) (cO (↑i:Int) m C 18)) j) r)]<|dB 73 (dA i P (combine (↑i:Int) (cO (↑i:Int) m C 18)) j != r) (by simp_all)<|zq<|dn (bR)
instance:Inhabited gl:=⟨⟨[],0,[],[]⟩⟩
def NZ (a b:List UInt8):Bool:=Op.bytesLess (⟨a.toArray⟩:ByteArray).toList (⟨b.toArray⟩:ByteArray).toList
def gC (leaf:Int):UInt64:=(1:UInt64)<<<UInt64.ofNat leaf.toNat
def Kw (l:List Mem) (n:List UInt8):Mem:=l.getD (dJ l n).toNat default
def jW (g:gX) (w:UInt64) (l:List gl) (i:Nat):Int :=
 if 0<i∧Fq (l.getD i default).name (l.getD (i-1) default).name=true then 7 else if dJ g.al (l.getD i default).name<0 then 11
 else if ky (Kw g.al (l.getD i default).name).h (Kw g.al (l.getD i default).name).r w (l.getD i default).leaf (l.getD i default).bI (l.getD i default).path≠0 then ky (Kw g.al (l.getD i default).name).h (Kw g.al (l.getD i default).name).r w (l.getD i default).leaf (l.getD i default).bI (l.getD i default).path
 else if (Kw g.al (l.getD i default).name).used&&&gC (l.getD i default).leaf≠0 then 37 else 0
def fA (g:gX) (w:UInt64) (l:List gl):Int:=if ff (jW g w l) l.length≠0 then ff (jW g w l) l.length else if (l.length:Int)<g.bA then 41 else 0
def pn (l:List Mem) (k:Nat):List Mem:=l.take k++l.drop (k+1)
def sH (g:gX) (l:List (List UInt8)) (i:Nat):Int:=if dJ g.al (l.getD i default)<0 then 11 else 0
def gK (g:gX) (e:eP):Int :=
 if e.kind=1 then (if 0≤dJ g.al e.name then 10 else if 8≤g.al.length then 12 else 0)
 else if e.kind=2 then (if dJ g.al e.name<0 then 11 else if (g.al.length:Int)-1<g.bA then 41 else 0)
 else if e.kind=3 then (if (g.al.length:Int)<e.bA∨2*e.bA≤g.al.length then 41 else 0)
 else if e.kind=4 then (if 8≤g.aO.length then 12 else if vt g.aO e.dep.bZ<g.aO.length then 10 else ff (sH g e.dep.af) e.dep.af.length)
 else if vt g.aO e.bZ=g.aO.length then 11 else if (g.aO.getD (vt g.aO e.bZ) default).target≠0 then 18 else 0
def qP (l:List na) (k:Nat) (t:UInt64):List na:=l.set k {l.getD k default with target:=t}
def cS (g:gX) (e:eP):gX :=
 if gK g e≠0 then g else if e.kind=1 then {g with bA:=if 2*g.bA≤g.al.length+1 then g.bA+1 else g.bA,al:=g.al++ [⟨e.name,e.kh,e.kr,0⟩]}
 else if e.kind=2 then {g with al:=pn g.al (dJ g.al e.name).toNat} else if e.kind=3 then {g with bA:=e.bA}
 else if e.kind=4 then {g with aO:=g.aO++ [e.dep]} else {g with aO:=qP g.aO (vt g.aO e.bZ) e.target}
def pH (l:List Mem) (v:gl):List Mem:=if dJ l v.name<0 then l else l.set (dJ l v.name).toNat {Kw l v.name with used:=(Kw l v.name).used|||gC v.leaf}
def j9 (l:List Mem) (vs:List gl):List Mem:=vs.foldl pH l
def fX (g:gX) (e:eP):Int:=if eu e≠0 then eu e else if e.aB≠g.aB+1∨e.prev≠g.head then 42 else if fA g (df e) e.ak≠0 then fA g (df e) e.ak else gK g e
def i_ (g:gX) (e:eP):gX:=if fX g e≠0 then g else ⟨e.aB,df e,(cS g e).bA,j9 (cS g e).al e.ak,(cS g e).aO⟩
def Ag (l:List gl) (n:List UInt8):Nat:=(l.takeWhile fun v=>NZ v.name n).length
def Jb (l:List gl) (n:List UInt8):Bool:=l.any fun v=>v.name == n
def lN (e:eP) (n:List UInt8) (h leaf:Int):Int:=if eu e≠0 then eu e else if Jb e.ak n=true then 10 else wi h leaf
def Au (l:List gl) (v:gl):List gl:=l.take (Ag l v.name)++ [v]++l.drop (Ag l v.name)
def tB (e:eP) (n:List UInt8) (seed:UInt64) (h leaf:Int):eP :=
 if lN e n h leaf≠0 then ⟨0,0,0,[],0,0,0,⟨0,0,[],[],[],0,0⟩,0,0,[]⟩ else {e with ak:=Au e.ak ⟨n,oU h leaf,ox seed h leaf (df e),ow seed h leaf⟩}
theorem tC {h:Int} {r m:UInt64} {leaf:Int} {C P:List UInt64} (e:ky h r m leaf C P=0):0≤leaf∧leaf<16:=by
 have nb:¬i7 h leaf:=by
  intro q
  unfold ky at e
  rw [if_pos q] at e;omega
 unfold i7 bB at nb
 have:2^h.toNat≤2^4:=Nat.pow_le_pow_right (by decide) aj
 omega
theorem NL (u:UInt64) (n:Nat) (h:n<64):((u>>>UInt64.ofNat n)&&&1=1)↔u&&&((1:UInt64)<<<UInt64.ofNat n)≠0:=by
 have hn:(UInt64.ofNat n).toNat%64=n:=by rw [UInt64.toNat_ofNat_of_lt' (by show n<2^64;omega)];omega
 have h1:((u>>>UInt64.ofNat n)&&&1=1)↔u.toNat.testBit n=true:=by
  rw [←UInt64.toNat_inj,UInt64.toNat_and,UInt64.toNat_shiftRight,hn]
  show (u.toNat>>>n)&&&1=1↔_
  rw [Nat.and_one_is_mod,Nat.testBit]
  simp [Nat.one_and_eq_mod_two]
 have h2:u&&&((1:UInt64)<<<UInt64.ofNat n)=0↔u.toNat.testBit n=false:=by
  rw [←UInt64.toNat_inj,UInt64.toNat_and,UInt64.toNat_shiftLeft,hn]
  show u.toNat&&&((1<<<n)%2^64)=0↔_
  rw [Nat.mod_eq_of_lt (by rw [Nat.one_shiftLeft];exact Nat.pow_lt_pow_right (by decide) h),Nat.one_shiftLeft]
  constructor
  ·intro q
   cases hb:u.toNat.testBit n with
   | false=>rfl
   | true =>
    have:=congrArg (fun x=>x.testBit n) q
    simp [Nat.testBit_and,hb,Nat.testBit_two_pow_self] at this
  ·intro q
   refine Nat.eq_of_testBit_eq fun i=>?_
   rw [Nat.testBit_and,Nat.testBit_two_pow,Nat.zero_testBit]
   by_cases e:n=i
   ·subst e;rw [q];rfl
   ·simp [e]
 rw [h1,ne_eq,h2]
 cases u.toNat.testBit n<;>simp
theorem gH (l:List Mem) (n:List UInt8):dJ l n= -1∨ ∃k:Nat,dJ l n=k∧k<l.length∧(l.getD k default).name=n:=by
 unfold dJ
 split
 ·rename_i h
  obtain ⟨m,hm,e⟩:=h
  have dj:=List.findIdx_lt_length_of_exists (p:=fun m:Mem=>m.name == n) ⟨m,hm,by simp [e]⟩
  refine .inr ⟨_,rfl,dj,?_⟩
  have:=List.findIdx_getElem (p:=fun m:Mem=>m.name == n) (w:=dj)
  rw [List.getD_eq_getElem?_getD,List.getElem?_eq_getElem dj]
  simpa using this
 ·exact .inl rfl
def J6 (es:List (Nat×Nat)) (j:Nat):AV->AV
 | .nil=>(match look es j with|some e=>.sl e []|none=>.nil)
 | x=>x
theorem J5 (es:List (Nat×Nat)) (j:Nat) (x:AV):J6 es j x=x∨x= .nil∧ ∃e,J6 es j x= .sl e []:=by
 cases x with
 | nil =>
  cases h:look es j with
  | none=>exact .inl (by show (match look es j with|some e=>AV.sl e []|none=>.nil)=_;rw [h])
  | some e=>exact .inr ⟨rfl,e,by show (match look es j with|some e=>AV.sl e []|none=>.nil)=_;rw [h]⟩
 | _=>exact .inl rfl
def JL (es:List (Nat×Nat)):List AV->Nat->List AV
 | [],_=>[]
 | x::l,j=>J6 es j x::JL es l (j+1)
def Qp (es:List (Nat×Nat)):AV->AV
 | .agg cs=>.agg (JL es cs 0)
 | x=>x
theorem xd (es:List (Nat×Nat)):∀(l:List AV) (j:Nat),(JL es l j).length=l.length
 | [],_=>rfl
 | _::l,j=>congrArg (· +1) (xd es l (j+1))
theorem BJ (es:List (Nat×Nat)):∀(l:List AV) (j i:Nat) (y:AV),(JL es l j)[i]?=some y-> ∃x,l[i]?=some x∧(y=x∨x= .nil∧ ∃e,y= .sl e [])
 | [],_,_,_,h=>by cases h
 | x::l,j,0,y,h=>by
  have h:some (J6 es j x)=some y:=h
  injection h with h
  subst h
  exact ⟨x,rfl,J5 es j x⟩
 | x::l,j,i+1,y,h=>BJ es l (j+1) i y h
theorem cB.Qp (es:List (Nat×Nat)) {S:Nat->Prop} {w:World} {v:Value} {x:AV} (h:cB S w v x):cB S w v (Qp es x):=by
 cases h with
 | agg vs cs hl h =>
  refine .agg vs _ (by rw [hl,xd]) fun j v c hv hc=>?_
  obtain ⟨x,hx,e⟩:=BJ es cs 0 j c hc
  have hr:=h j v x hv hx
  rcases e with rfl|⟨rfl,e,rfl⟩
  ·exact hr
  ·cases hr;exact iN none 0 0 e (by simp) (Nat.le_refl _) (by simp)
 | nil=>exact .nil
 | val v=>exact .val v
 | bt vs cs hl h=>exact .bt vs cs hl h
 | arr vs cs hl h=>exact .arr vs cs hl h
 | sl A n c e us row hl hn hc hm ha h=>exact .sl A n c e us row hl hn hc hm ha h
 | pf A n e us row hl hn hm ha h=>exact .pf A n e us row hl hn hm ha h
 | ptr ad us row off hl hs ha h=>exact .ptr ad us row off hl hs ha h
 | lK f vs cs hl h=>exact .lK f vs cs hl h
theorem bL.HA (es:List (Nat×Nat)) {P:Program} {f:FuncId} {args:List AV} {r:AV} (h:bL P f (args.map (Qp es)) r):bL P f args r:=by
 intro w S vs j0 hS hv hr
 refine h w S vs j0 hS (by rw [List.length_map];exact hv) fun j v y Ud hy=>?_
 rw [List.getElem?_map] at hy
 cases hx:args[j]? with
 | none=>rw [hx] at hy;cases hy
 | some x=>rw [hx] at hy;cases hy;exact (hr j v x Ud hx).Qp es
theorem bS.Q6 {s:AS} (id:Nat) (es:List (Nat×Nat)) {r:Row} (hr:look s.H id=some r):bS s ⟨s.F,(id,⟨r.e,r.pure,r.full,JL es r.cells 0⟩)::cU s.H id⟩:=by
 intro S0 w0 n a w ⟨φ,hs⟩
 have hl:=xd es r.cells 0
 have hI:az ((id,(⟨r.e,r.pure,r.full,JL es r.cells 0⟩:Row))::cU s.H id) φ=az s.H φ:=by
  funext i
  unfold az
  rw [aD]
  by_cases e1:id=i
  ·subst e1;rw [if_pos rfl,hr];show some (r.e,(JL es r.cells 0).length,φ id)=_;rw [hl];rfl
  ·rw [if_neg e1,bH,if_neg e1]
 refine ⟨φ,hs.jQ,hs.jT,hs.cZ,fun i av hi=>by rw [hI];exact hs.cG i av hi,fun i q hq=>?_,fun i hi=>?_,hs.inj,hs.cY,hs.apart,hs.new⟩
 ·rw [hI]
  rw [aD] at hq
  by_cases e1:id=i
  ·subst e1
   rw [if_pos rfl] at hq;injection hq with hq;subst hq
   have aN:=hs.rows id r hr
   unfold bN at aN ⊢
   cases hg:φ id with
   | none=>rw [hg] at aN;exact List.eq_nil_of_length_eq_zero (by rw [hl,aN];rfl)
   | some g =>
    rw [hg] at aN
    obtain ⟨cur,te,fr,u1,u2,u3,u4,u5⟩:=aN
    refine ⟨cur,te,fr,u1,u2,by rw [hl];exact u3,fun h=>by rw [hl];exact u4 h,fun k u x hu hx=>?_⟩
    obtain ⟨y,hy,e⟩:=BJ es r.cells 0 k x hx
    have:=u5 k u y hu hy
    unfold bj at this ⊢
    rcases e with rfl|⟨rfl,e2,rfl⟩
    ·exact this
    ·have hv:u= .slice none 0 0:=by
      cases hp:r.pure with
      | true=>rw [hp] at this;cases this;rfl
      | false =>
       rw [hp] at this
       have this:Den _ _ _ u .nil:=this
       cases this with
       | rep h=>cases h;rfl
     subst hv
     show match r.pure with|true=>cB _ _ _ _|false=>Den _ _ _ _ _
     cases r.pure with
     | true=>exact iN none 0 0 e2 (by simp) (Nat.le_refl _) (by simp)
     | false=>exact .rep (iN none 0 0 e2 (by simp) (Nat.le_refl _) (by simp))
  ·rw [if_neg e1,bH,if_neg e1] at hq
   exact hs.rows i q hq
 ·rw [aD] at hi
  by_cases e1:id=i
  ·subst e1;rw [if_pos rfl] at hi;cases hi
  ·rw [if_neg e1,bH,if_neg e1] at hi;exact hs.only i hi
def BS (s:AS) (id:Nat):Row:=match look s.H id with|some r=>r|none=>⟨0,true,false,[]⟩
theorem bS.ME {s:AS} (id:Nat) (es:List (Nat×Nat)) (hr:look s.H id=some (BS s id)):bS s ⟨s.F,(id,⟨(BS s id).e,(BS s id).pure,(BS s id).full,JL es (BS s id).cells 0⟩)::cU s.H id⟩:=bS.Q6 id es hr
theorem MF {ι:Type} {Inv:ι->Prop} {J:ι->AS} {s s1:AS} (hw:bS s s1) (h:∃x,Inv x∧bS s1 (J x)):∃x,Inv x∧bS s (J x):=by
 obtain ⟨x,hx,h⟩:=h
 exact ⟨x,hx,fun S0 w0 n a w hs=>h S0 w0 n a w (hw S0 w0 n a w hs)⟩
end Go.Proofs.YtjgbhhnghedgdaaGreatDoor
