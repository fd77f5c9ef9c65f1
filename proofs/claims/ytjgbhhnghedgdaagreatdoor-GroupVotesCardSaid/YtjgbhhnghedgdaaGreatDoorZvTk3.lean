import Derived.Test.YtjgbhhnghedgdaaGreatDoorZvTk2
import Derived.Shelf.RegionOpenPlain
import Derived.WalkKit
import Derived.Lib.SliceRun
import Derived.Lib.Overlaps
import Derived.Shelf.Spec.SlicesInsert
set_option linter.all false
namespace Go.Proofs.YtjgbhhnghedgdaaGreatDoor
open Go.RowKit
set_option maxRecDepth 100000
set_option maxHeartbeats 4000000
def dh (seed:UInt64) (leaf:Nat) (n:Nat):List UInt64:=(List.range n).map fun k=>gp seed k (leaf/2^k^^^1)
theorem vc (seed:UInt64) (leaf k:Nat):dh seed leaf (k+1)=dh seed leaf k++ [gp seed k (leaf/2^k^^^1)]:=by simp [dh,List.range_succ]
theorem oK (seed:UInt64) (leaf k:Nat):(dh seed leaf k).length=k:=by simp [dh]
theorem AU (leaf k:Nat) (hk:k≤4):((leaf:Int)).fdiv (2^min (wv (u64 (k:Int))).toNat IntKind.i64.bits)=((leaf/2^k:Nat):Int):=by
 have e:(2:Int)^min (wv (u64 (k:Int))).toNat IntKind.i64.bits=((2^k:Nat):Int):=by
  rcases (ag:k=0∨k=1∨k=2∨k=3∨k=4) with rfl|rfl|rfl|rfl|rfl<;>decide +kernel
 rw [e,Int.fdiv_eq_ediv_of_nonneg _ (Int.natCast_nonneg _)];rfl
theorem Ep (q:Nat) (hq:q<16):IntKind.i64.wrap ((BitVec.ofInt IntKind.i64.bits (q:Int)^^^BitVec.ofInt IntKind.i64.bits 1).toNat:Nat)=((q^^^1:Nat):Int):=by
 have key:∀q:Fin 16,IntKind.i64.wrap ((BitVec.ofInt IntKind.i64.bits ((q.val:Nat):Int)^^^BitVec.ofInt IntKind.i64.bits 1).toNat:Nat)=((q.val^^^1:Nat):Int):=by decide +kernel
 exact key ⟨q,hq⟩
theorem MZ (q:Nat) (hq:q<16):q^^^1<16:=by
 have key:∀q:Fin 16,q.val^^^1<16:=by decide +kernel
 exact key ⟨q,hq⟩
theorem CQ (seed:UInt64) (h leaf:Nat) (m:UInt64) (hh:h≤4) (hl:leaf<2^h):bG Tryz.prog 55 [aw seed,ai h,ai leaf,aw m] (.cw [.agg [ai leaf,.own 1 (ah (bS seed leaf m 18)),.own 1 (ah (dh seed leaf h))],ai 0]):=by
 have hb:¬ct (h:Int):=by unfold ct;omega
 have hp:2^h≤16:=Nat.pow_le_pow_right (by decide) hh
 have Df:IntKind.i64.wrap (1*2^min (wv (u64 (h:Int))).toNat IntKind.i64.bits)=((2^h:Nat):Int):=by
  rcases (ag:h=0∨h=1∨h=2∨h=3∨h=4) with rfl|rfl|rfl|rfl|rfl<;>decide +kernel
 have KD:(0:Int)≤wv (u64 (h:Int)):=Int.natCast_nonneg _
 refine zO Tryz.func55 52<|zq<|zS<|zP 1 [yH ([(1,yC (ba ((↑h:Int)))),(6,{b:=false}),(10,{av:=some (aw (u64 (↑h:Int))),g:=false}),(11,{av:=some (ai (↑((2:Nat)^h):Int)),g:=false}),(13,{b:=false})]++yg [4,5,8,9,12])] [.aa [25,9,8,0,1,2,3] [8]] ([yI (ba ((↑h:Int)))]++yM 3 (yS ((!!decide (ct (↑h:Int)))=false))++yM 3 (yR false)++ [yI (a7 ((↑h:Int))),yR false,yI (yc Df),yI KD,yR false,yR false])<|dF 25 ((↑leaf:Int)≥(↑((2:Nat)^h):Int))<|a_<|zP 1 [yH [(4,yC (qo (seed) ((↑leaf:Int)) (m)))]] [.aa [10,25,9,8,0,1,2,3] [10,31,8]] [yI (qo seed ((↑leaf:Int)) m),yB (kP (ah (bS seed (↑leaf:Int) m 18))) (fE _),yL 3 3]<|zS<|zq<|zB 0<|bg.nL (bQ.Ma 10 2 49 1 (r:=⟨1,false,true,[ai leaf,.ref 31,.nil]⟩) bu rfl rfl bu) (zL (fun (k:Nat)=>(⟨[(10,AV.addr 10 0),(25,ao (decide ((↑leaf:Int)≥(↑((2:Nat)^h):Int)))),(9,ai 0),(8,AV.addr 8 0),(0,aw seed),(1,ai ↑h),(2,ai ↑leaf),(3,aw m),(11,ai k)],[(8,⟨1,false,true,[ai 0,AV.nil,AV.nil]⟩),(31,⟨1,true,false,ah (bS seed (↑leaf:Int) m 18)⟩),(10,⟨1,false,true,[ai leaf,AV.ref 31,AV.ref 49]⟩),(49,⟨1,true,false,ah (dh seed leaf k)⟩)]⟩:AS)) (fun k=>(k≤h)) (fun k=>(h-k)) (0) ?_ (zW [.aa [10,25,9,8,0,1,2,3,11] [8,31,10,49]]) ?_)
 ·omega
 intro k hk
 refine zS<|bg.qm 1 [{}] [.aa [35,10,25,9,8,0,1,2,3,11] [8,31,10,49]] bu (s':=AS.mk [(35,ao (decide ((↑k:Int)<(↑h:Int)))),(10,AV.addr 10 0),(25,ao (decide ((↑leaf:Int)≥(↑((2:Nat)^h):Int)))),(9,ai 0),(8,AV.addr 8 0),(0,aw seed),(1,ai ↑h),(2,ai ↑leaf),(3,aw m),(11,ai ↑k)] [(8,Row.mk 1 false true [ai 0,AV.nil,AV.nil]),(31,Row.mk 1 true false (ah (bS seed (↑leaf:Int) m 18))),(10,Row.mk 1 false true [ai ↑leaf,AV.ref 31,AV.ref 49]),(49,Row.mk 1 true false (ah (dh seed leaf k)))]) (C:=[]) bu trivial (zD 35 ((↑k:Int)<(↑h:Int)) (fun g=>?_) (fun g=>?_))
 ·have BI:k≤4:=ag
  have hs:=AU leaf k BI
  have hle:leaf/2^k≤leaf:=Nat.div_le_self ..
  have hq:leaf/2^k<16:=ag
  have hx:=Ep _ hq
  have cW:=MZ _ hq
  have ep:=vc seed leaf k
  have Lq:(0:Int)≤wv (u64 (k:Int)):=Int.natCast_nonneg _
  have hn:=sV seed k (leaf/2^k^^^1) BI (Nat.lt_of_lt_of_le cW (Nat.le_trans (by decide:16≤2^36) (Nat.pow_le_pow_right (by decide) ag)))
  generalize leaf/2^k^^^1=x at *
  generalize gp seed k x=r at *
  generalize leaf/2^k=q at *
  refine a_<|zS<|zB 1<|zX ({hs:=[(6,yV (aw (u64 (↑k:Int)))),(7,yV (ai ↑q)),(8,yV (ai ↑x)),(9,yC hn),(10,yV (AV.arr (ah [r]))),(11,yV (AV.arr (ah (dh seed leaf k++ [r]))))],T:=11}) [yI (a7 ((↑k:Int))),yI (yc hs),yI Lq,yI (yc hx),yI hn,yR [aw r],yB (ah (dh seed leaf k)++ah [r]=ah (dh seed leaf k++ [r])) (jt _ _),yB (((ah (dh seed leaf k)).length+1)*8≤140737488355328) (by simp only [aA,oK];omega),yL 3 3]<|aJ<|al<|zX (yH [(1,yV (ai ((↑k:Int)+1)))]) [yN ((↑k:Int)+1)] (aH (k+1) ag ag (eS [.aa [10,25,9,8,0,1,2,3,11] [8,31,10,49]] [] [49] [yB (ah (dh seed leaf k++ [r])=ah (dh seed leaf (k+1))) (congrArg ah ep.symm)]))
 ·have e:k=h:=ag
  subst e
  refine zE 0<|a6<|aM<|bm<|al<|zP 1 [{}] [.aa [9,35,10,25,8,0,1,2,3,11] [8,31,10,49]] [yL 3 3]<|zR (bP)
def iZ (h leaf:Int):Prop:=ct h∨leaf<0∨((2^h.toNat:Nat):Int)≤leaf
instance (h leaf:Int):Decidable (iZ h leaf):=by unfold iZ;infer_instance
def wS (h leaf:Int):Int:=if iZ h leaf then 9 else 0
def np (h leaf:Int):Int:=if iZ h leaf then 0 else leaf
def mN (seed:UInt64) (h leaf:Int) (m:UInt64):List UInt64:=if iZ h leaf then [] else bS seed leaf m 18
def mM (seed:UInt64) (h leaf:Int):List UInt64:=if iZ h leaf then [] else dh seed leaf.toNat h.toNat
theorem lG (seed:UInt64) (h leaf:Int) (m:UInt64):bG Tryz.prog 55 [aw seed,ai h,ai leaf,aw m] (.cw [.agg [ai (np h leaf),.own 1 (ah (mN seed h leaf m)),.own 1 (ah (mM seed h leaf))],ai (wS h leaf)]):=by
 by_cases fp:iZ h leaf
 ·have e1:wS h leaf=9:=if_pos fp
  have e2:np h leaf=0:=if_pos fp
  have e3:mN seed h leaf m= []:=if_pos fp
  have e4:mM seed h leaf= []:=if_pos fp
  rw [e1,e2,e3,e4]
  unfold iZ at fp
  by_cases hb:ct h
  ·refine zO Tryz.func55 52<|zq<|zS<|zP 1 [yH [(1,yC (ba (h)))]] [.aa [25,9,8,0,1,2,3] [8]] ([yI (ba h)]++yM 3 (yS ((!!decide (ct h))=true))++yM 6 (yR true))<|zT 25<|zP 1 [{}] [.aa [9,25,8,0,1,2,3] [8]] [yL 3 3]<|dC (bP)
  have sd:0≤h∧h≤4:=by unfold ct at hb;omega
  obtain ⟨k,rfl⟩:=Int.eq_ofNat_of_zero_le sd.1
  rw [Int.toNat_natCast] at fp
  by_cases cW:leaf<0
  ·refine zO Tryz.func55 52<|zq<|zS<|zP 1 [yH ([(1,yC (ba ((↑k:Int)))),(6,{b:=false})]++yg [4,5])] [.aa [25,9,8,0,1,2,3] [8]] ([yI (ba ((↑k:Int)))]++yM 3 (yS ((!!decide (ct (↑k:Int)))=false))++yM 6 (yT (leaf<0)))<|zT 25<|zP 1 [{}] [.aa [9,25,8,0,1,2,3] [8]] [yL 3 3]<|dC (bP)
  have vI:((2^k:Nat):Int)≤leaf:=by rcases fp with h|h|h<;>first|exact absurd h hb|exact absurd h cW|exact h
  have hp:2^k≤16:=Nat.pow_le_pow_right (by decide) (by omega:k≤4)
  have Df:IntKind.i64.wrap (1*2^min (wv (u64 (k:Int))).toNat IntKind.i64.bits)=((2^k:Nat):Int):=by
   rcases (ag:k=0∨k=1∨k=2∨k=3∨k=4) with rfl|rfl|rfl|rfl|rfl<;>decide +kernel
  have KD:(0:Int)≤wv (u64 (k:Int)):=Int.natCast_nonneg _
  generalize 2^k=p2 at *
  refine zO Tryz.func55 52<|zq<|zS<|zP 1 [yH ([(1,yC (ba ((↑k:Int)))),(6,{b:=false}),(10,{av:=some (aw (u64 (↑k:Int))),g:=false}),(11,{av:=some (ai ↑p2),g:=false}),(13,{b:=false})]++yg [4,5,8,9,12])] [.aa [25,9,8,0,1,2,3] [8]] ([yI (ba ((↑k:Int)))]++yM 3 (yS ((!!decide (ct (↑k:Int)))=false))++yM 3 (yF (leaf<0))++ [yI (a7 ((↑k:Int))),yF (leaf<0),yI (yc Df),yI KD]++yM 2 (yF (leaf<0)))<|iw 25 (leaf≥(↑p2:Int))<|zP 1 [{}] [.aa [9,25,8,0,1,2,3] [8]] [yL 3 3]<|dC (bP)
 ·have e1:wS h leaf=0:=if_neg fp
  have e2:np h leaf=leaf:=if_neg fp
  have e3:mN seed h leaf m=bS seed leaf m 18:=if_neg fp
  have e4:mM seed h leaf=dh seed leaf.toNat h.toNat:=if_neg fp
  rw [e1,e2,e3,e4]
  unfold iZ ct at fp
  have sd:0≤h∧h≤4∧0≤leaf:=ag
  obtain ⟨k,rfl⟩:=Int.eq_ofNat_of_zero_le sd.1
  obtain ⟨i,rfl⟩:=Int.eq_ofNat_of_zero_le sd.2.2
  rw [Int.toNat_natCast,Int.toNat_natCast]
  rw [Int.toNat_natCast] at fp
  exact CQ seed k i m ag ag
theorem HQ (seed:UInt64) (h leaf:Int) (m:UInt64) (fp:iZ h leaf):bG Tryz.prog 51 [aw seed,ai h,ai leaf,aw m] (.cw [.agg [ai 0,.sl 1 (ah []),.own 1 (ah [])],ai 9]):=by
 unfold iZ at fp
 by_cases hb:ct h
 ·refine zO Tryz.func51 48<|zq<|zS<|zP 1 [yH [(1,yC (dw (h)))]] [.aa [19,9,8,6,5,0,1,2,3] [8,6,5]] ([yI (dw h)]++yM 4 (yT (ct h)))<|zT 19<|zP 1 [{}] [.aa [9,19,8,6,5,0,1,2,3] [8,6,5]] [yL 3 3]<|dC (bP)
 have sd:0≤h∧h≤4:=by unfold ct at hb;omega
 obtain ⟨k,rfl⟩:=Int.eq_ofNat_of_zero_le sd.1
 rw [Int.toNat_natCast] at fp
 have ho:leaf<0∨((2^k:Nat):Int)≤leaf:=fp.resolve_left hb
 have hk:k≤4:=ag
 refine zO Tryz.func51 48<|zq<|zS<|zP 1 [yH ([(1,yC (dw ((↑k:Int)))),(5,{av:=some (ao (decide (leaf<0∨(↑((2:Nat)^k):Int)≤leaf))),g:=false}),(6,{b:=false})]++yg [3,4])] [.aa [19,9,8,6,5,0,1,2,3] [8,6,5]] ([yI (dw ((↑k:Int)))]++yM 3 (yF (ct (↑k:Int)))++ [yI (iS leaf k hk),yF (ct (↑k:Int))])<|iw 19 (leaf<0∨(↑((2:Nat)^k):Int)≤leaf)<|zP 1 [{}] [.aa [9,19,8,6,5,0,1,2,3] [8,6,5]] [yL 3 3]<|dC (bP)
def rL (seed:UInt64) (h leaf:Nat) (x:AV) (i:Nat):List (Nat×Row) :=
 [(1000000000005,⟨1,false,true,[ai (h:Int)]⟩),(1000000000006,⟨1,false,true,[ai (leaf:Int)]⟩),(1000000000008,⟨1,false,true,[ai 0,.nil,.nil]⟩),(1000000000010,⟨1,false,true,[ai (leaf:Int),x,.ref 49]⟩),(49,⟨1,true,false,ah (dh seed leaf (min i h))⟩)]
def AR (seed:UInt64) (h:Nat) (m:UInt64):List (Nat×AV) :=
 [(29,.mI 142 [.ptr [ai (h:Int)] 0,.ptr [aw seed] 0]),(10,.addr 1000000000010 0),(9,ai 0),(8,.addr 1000000000008 0),(6,.addr 1000000000006 0),(5,.addr 1000000000005 0),(0,aw seed),(3,aw m)]
theorem AQ (seed:UInt64) (h leaf:Nat) (m:UInt64) (L:List AV) (i:Nat) (v:Value):En [(v,.sl 1 L)] ⟨AR seed h m,rL seed h leaf (.val v) i⟩ ⟨AR seed h m,rL seed h leaf (.sl 1 L) i⟩:=by
 intro Z w0 n a w φ hs hr
 have h1:=hs.close_ 1000000000010 1 (r:=⟨1,false,true,[ai (leaf:Int),.val v,.ref 49]⟩) (x:=.sl 1 L) (v:=v) rfl rfl rfl (hr (v,.sl 1 L) (by simp))
 refine h1.congr fun i'=>?_
 show look (rL seed h leaf (.sl 1 L) i) i'=look ((1000000000010,⟨1,false,true,[ai (leaf:Int),.sl 1 L,.ref 49]⟩):: [(1000000000005,⟨1,false,true,[ai (h:Int)]⟩),(1000000000006,⟨1,false,true,[ai (leaf:Int)]⟩),(1000000000008,⟨1,false,true,[ai 0,.nil,.nil]⟩),(49,⟨1,true,false,ah (dh seed leaf (min i h))⟩)]) i'
 unfold rL
 simp only [aD]
 by_cases e:1000000000010=i'
 ·subst e;rfl
 ·simp only [e,if_false]
theorem HS (seed:UInt64) (h leaf:Nat) (m:UInt64) (L:List AV) (Z:bn) (w0:World) (n:Nat) (a:Act) (w:World) (φ:Nat->Option Nat) (hs:aI Z w0 n [] (AS.mk (AR seed h m) [(1000000000005,⟨1,false,true,[ai (h:Int)]⟩),(1000000000006,⟨1,false,true,[ai (leaf:Int)]⟩),(1000000000008,⟨1,false,true,[ai 0,.nil,.nil]⟩),(1000000000010,⟨1,false,true,[ai (leaf:Int),.sl 1 L,.nil]⟩)]) a w φ) :
  ∃(kq:Nat->Option Nat) (vs:List Value),vs.length= [AV.sl 1 L].length∧aI Z w0 n [] ⟨AR seed h m,rL seed h leaf (.val (vs.headD default)) 0⟩ a w kq∧ ∀p∈vs.zip [AV.sl 1 L],cz (aP Z w kq []) w p.1 p.2:=by
 obtain ⟨kq,h2⟩:=(bQ.Ma 1000000000010 2 49 1 (r:=⟨1,false,true,[ai (leaf:Int),.sl 1 L,.nil]⟩) rfl rfl rfl rfl) Z w0 n a w ⟨φ,hs⟩
 obtain ⟨v,h3,hr⟩:=h2.open_ 1000000000010 1 (r:=⟨1,false,true,[ai (leaf:Int),.sl 1 L,.ref 49]⟩) (x:=.sl 1 L) rfl rfl rfl rfl
 refine ⟨kq,[v],rfl,h3.congr fun i'=>?_,fun p hp=>?_⟩
 ·show look (rL seed h leaf (.val v) 0) i'=look [(1000000000010,⟨1,false,true,[ai (leaf:Int),.val v,.ref 49]⟩),(49,⟨1,true,false,[]⟩),(1000000000005,⟨1,false,true,[ai (h:Int)]⟩),(1000000000006,⟨1,false,true,[ai (leaf:Int)]⟩),(1000000000008,⟨1,false,true,[ai 0,.nil,.nil]⟩)] i'
  have e0:ah (dh seed leaf (min 0 h))= []:=by simp [dh,ah]
  unfold rL
  rw [e0]
  simp only [aD]
  by_cases e:1000000000010=i'
  ·subst e;rfl
  ·simp only [e,if_false]
   by_cases e:49=i'
   ·subst e;rfl
   ·simp only [e,if_false]
 ·obtain rfl:p=(v,.sl 1 L):=by simpa using hp
  exact hr
theorem xu (leaf k:Nat) (hk:k≤4):((leaf:Int)).fdiv (2^min ((k:Int)).toNat IntKind.i64.bits)=((leaf/2^k:Nat):Int):=by
 have e:(2:Int)^min ((k:Int)).toNat IntKind.i64.bits=((2^k:Nat):Int):=by
  rcases (ag:k=0∨k=1∨k=2∨k=3∨k=4) with rfl|rfl|rfl|rfl|rfl<;>decide +kernel
 rw [e,Int.fdiv_eq_ediv_of_nonneg _ (Int.natCast_nonneg _)];rfl
theorem Hu (q m:Nat) (hm:m≤8) (hq:q<2*m):q^^^1<2*m:=by
 have key:∀m:Fin 9,∀q:Fin 16,q.val<2*m.val->q.val^^^1<2*m.val:=by decide +kernel
 exact key ⟨m,ag⟩ ⟨q,ag⟩ hq
theorem KZ (seed:UInt64) (h leaf:Nat) (m:UInt64) (hh:h≤4) (hl:leaf<2^h):bG Tryz.prog 51 [aw seed,ai h,ai leaf,aw m] (.cw [.agg [ai leaf,.sl 1 (ah (bS seed leaf m 18)),.own 1 (ah (dh seed leaf h))],ai 0]):=by
 have hb:¬ct (h:Int):=by unfold ct;omega
 have hp:2^h≤16:=Nat.pow_le_pow_right (by decide) hh
 have ho:¬((leaf:Int)<0∨((2^h:Nat):Int)≤leaf):=ag
 refine zO Tryz.func51 48<|zq<|zS<|zP 1 [yH ([(1,yC (dw ((↑h:Int)))),(5,{av:=some (ao (decide ((↑leaf:Int)<0∨(↑((2:Nat)^h):Int)≤(↑leaf:Int)))),g:=false}),(6,{b:=false})]++yg [3,4])] [.aa [19,9,8,6,5,0,1,2,3] [8,6,5]] ([yI (dw ((↑h:Int)))]++yM 3 (yF (ct (↑h:Int)))++ [yI (iS ((↑leaf:Int)) h hh),yF (ct (↑h:Int))])<|dF 19 ((↑leaf:Int)<0∨(↑((2:Nat)^h):Int)≤(↑leaf:Int))<|a_<|zS<|Ax 7 [6] [(4,yC (rK (seed) ((↑leaf:Int)) (m)))] [yI (rK seed ((↑leaf:Int)) m),yB (kP (ah (bS seed (↑leaf:Int) m 18))) (fE _),yR (ai ↑leaf),yR (aw seed),yR (ai ↑leaf),yR (aw m),yR (AV.sl 1 (ah (bS seed (↑leaf:Int) m 18))),yI (rK seed ((↑leaf:Int)) m),yB (kP (ah (bS seed (↑leaf:Int) m 18))) (fE _),yR (AV.agg [ai ↑leaf,AV.sl 1 (ah (bS seed (↑leaf:Int) m 18)),AV.nil]),yL 3 3]<|al<|bg.rz [.aa [10,19,9,8,6,5,0,1,2,3] [10,8,6,5]] bu<|zS<|zP 1 [yH [(2,yD (vv (seed) ((↑h:Int))))]] [.aa [29,10,19,9,8,6,5,0,1,2,3] [10,8,6,5]] [yI (vv seed ((↑h:Int)))]<|zB 0 ?_
 refine bg.Nr bu _ _ (Bt seed h hh) bu bu bu [(5,1000000000005),(6,1000000000006),(8,1000000000008),(10,1000000000010)] bu [.sl 1 (ah (bS seed leaf m 18))]
  (AR seed h m) (fun vs i=>rL seed h leaf (.val (vs.headD default)) i) ⟨AR seed h m,rL seed h leaf (.sl 1 (ah (bS seed leaf m 18))) (h+1)⟩
  (fun Z w0 a w φ hs=>?_) (fun vs _=>by kernel_rfl) (fun _=>by kernel_rfl) bu (fun vs i _ _=>⟨eQ (iW rfl) (eQ (iW rfl) (eQ (iW rfl) (eQ (iW rfl) (eQ (q_ _) wA)))),by kernel_rfl⟩) (fun vs i hv hi=>?_) (fun vs hv=>?_) ?_
 ·obtain ⟨iM,h1⟩:=(zW [.aa [29,10,9,8,6,5,0,3] [1000000000005,1000000000006,1000000000008,1000000000010]]) Z w0 48 a w ⟨φ,hs⟩
  exact HS seed h leaf m _ Z w0 48 a w iM h1
 ·obtain ⟨v,rfl⟩:=List.length_eq_one_iff.1 hv
  refine bg.RY (AS.mk ([(31,.sl 1 (ah (k9 seed h i))),(30,ai (i:Int))]++AR seed h m) [(1000000000005,⟨1,false,true,[ai (h:Int)]⟩),(1000000000006,⟨1,false,true,[ai (leaf:Int)]⟩),(1000000000008,⟨1,false,true,[ai 0,.nil,.nil]⟩),(1000000000010,⟨1,false,true,[ai (leaf:Int),.val v,.ref 49]⟩),(49,⟨1,true,false,ah (dh seed leaf (min i h))⟩)]) bu ?_
  rw [show min i h=i by omega]
  refine bg.RY (AS.mk [(31,.sl 1 (ah (k9 seed h i))),(30,ai (i:Int)),(29,.mI 142 [.ptr [ai (h:Int)] 0,.ptr [aw seed] 0]),(10,.addr 1000000000010 0),(9,ai 0),(8,.addr 1000000000008 0),(6,.addr 1000000000006 0),(5,.addr 1000000000005 0),(0,aw seed),(3,aw m)] [(1000000000005,⟨1,false,true,[ai (h:Int)]⟩),(1000000000006,⟨1,false,true,[ai (leaf:Int)]⟩),(1000000000008,⟨1,false,true,[ai 0,.nil,.nil]⟩),(1000000000010,⟨1,false,true,[ai (leaf:Int),.val v,.ref 49]⟩),(49,⟨1,true,false,ah (dh seed leaf i)⟩)]) bu<|zq<|zX {} []<|al<|zB 1<|zS<|zP 1 [{}] [.aa [34,12,11,31,30,29,10,9,8,6,5,0,3] [1000000000005,1000000000006,1000000000008,1000000000010,49]] [] (bg.Kc (x:=.tmp 34) (u:=(↑i:Int)) (v:=(↑h:Int)) bu bu (fun g=>?_) (fun g=>?_))
  ·have e:i=h:=ag
   subst e
   refine zE 0<|a6<|PX bu ?_
   refine ⟨rL seed i leaf (.val v) (i+1),⟨AR seed i m,rL seed i leaf (.sl 1 (ah (bS seed leaf m 18))) (i+1)⟩,eQ (iW rfl) (eQ (iW rfl) (eQ (iW rfl) (eQ (iW rfl) (eQ (q_ _) wA)))),by kernel_rfl,
    bQ.of [.aa [] [1000000000005,1000000000006,1000000000008,1000000000010,49]] (s1:=AS.mk [] [(1000000000005,⟨1,false,true,[ai (i:Int)]⟩),(1000000000006,⟨1,false,true,[ai (leaf:Int)]⟩),(1000000000008,⟨1,false,true,[ai 0,.nil,.nil]⟩),(1000000000010,⟨1,false,true,[ai (leaf:Int),.val v,.ref 49]⟩),(49,⟨1,true,false,ah (dh seed leaf i)⟩)]) bu (by unfold rL;rw [show min (i+1) i=i by omega]),AQ seed i leaf m _ (i+1) v,bm (al ?_)⟩
   refine bg.RY (AS.mk [(29,.mI 142 [.ptr [ai (i:Int)] 0,.ptr [aw seed] 0]),(10,.addr 10 0),(9,ai 0),(8,.addr 8 0),(6,.addr 6 0),(5,.addr 5 0),(0,aw seed),(3,aw m)] [(5,⟨1,false,true,[ai (i:Int)]⟩),(6,⟨1,false,true,[ai (leaf:Int)]⟩),(8,⟨1,false,true,[ai 0,.nil,.nil]⟩),(10,⟨1,false,true,[ai (leaf:Int),.sl 1 (ah (bS seed leaf m 18)),.ref 49]⟩),(49,⟨1,true,false,ah (dh seed leaf (min (i+1) i))⟩)]) bu ?_
   rw [show min (i+1) i=i by omega]
   refine bg.qm 1 [{}] [.aa [9,29,10,8,6,5,0,3] [8,5,6,10,49]] bu (s':=AS.mk [(9,ai 0),(29,AV.mI 142 [AV.ptr [ai ↑i] 0,AV.ptr [aw seed] 0]),(10,AV.addr 10 0),(8,AV.addr 8 0),(6,AV.addr 6 0),(5,AV.addr 5 0),(0,aw seed),(3,aw m)] [(8,Row.mk 1 false true [ai ↑leaf,AV.sl 1 (ah (bS seed (↑leaf:Int) m 18)),AV.ref 49]),(5,Row.mk 1 false true [ai ↑i]),(6,Row.mk 1 false true [ai ↑leaf]),(10,Row.mk 1 false true [ai ↑leaf,AV.sl 1 (ah (bS seed (↑leaf:Int) m 18)),AV.ref 49]),(49,Row.mk 1 true false (ah (dh seed leaf i)))]) (C:=[3≤3]) bu ⟨ag,trivial⟩<|zR (bP)
  ·have BI:i≤4:=ag
   have hs:=xu leaf i BI
   have hle:leaf/2^i≤leaf:=Nat.div_le_self ..
   have hq:leaf/2^i<16:=ag
   have hx:=Ep _ hq
   have em:2^(h-i)=2*2^(h-(i+1)):=by rw [show h-i=h-(i+1)+1 by omega,Nat.pow_succ,Nat.mul_comm]
   have V4:2^(h-(i+1))≤8:=Nat.le_trans (Nat.pow_le_pow_right (by decide) (by omega:h-(i+1)≤3)) (by decide)
   have hdiv:leaf/2^i<2^(h-i):=by
    rw [Nat.div_lt_iff_lt_mul (Nat.two_pow_pos _),←Nat.pow_add,show h-i+i=h by omega];exact hl
   have Hf:leaf/2^i^^^1<2^(h-i):=by rw [em];exact Hu _ _ V4 ag
   have gM:=qG seed h i _ Hf
   have ud:=qF seed h i
   have ep:=vc seed leaf i
   have nw:=oK seed leaf i
   have Di:min (i+1) h=i+1:=ag
   generalize leaf/2^i^^^1=x at *
   generalize leaf/2^i=q at *
   generalize k9 seed h i=L at *
   generalize 2^(h-i)=c at *
   refine a_<|zX ({hs:=[(5,yV (ai ↑q)),(6,yV (ai ↑x)),(7,{k:=x}),(8,yV (aw (L.getD x 0))),(9,yV (AV.arr (ah [L.getD x 0]))),(10,yV (AV.arr (ah (dh seed leaf i++ [L.getD x 0]))))],T:=10}) [yI (yc hs),yO ((0:Int)≤(↑i:Int)),yI (yc hx),yR (↑x:Int),yB (x<(ah L).length) (by simp only [aA];omega),yB ((ah L)[x]?=some (aw (L.getD x 0))) (dX ag),yR [aw (L.getD x 0)],yB (ah (dh seed leaf i)++ah [L.getD x 0]=ah (dh seed leaf i++ [L.getD x 0])) (jt _ _),yB (((ah (dh seed leaf i)).length+1)*8≤140737488355328) (by simp only [aA];omega),yL 3 3]<|aJ ?_
   exact bQ.of [.uX 45 49,.aa [] [1000000000005,1000000000006,1000000000008,1000000000010,49]] (s1:=AS.mk [] [(1000000000005,⟨1,false,true,[ai (h:Int)]⟩),(1000000000006,⟨1,false,true,[ai (leaf:Int)]⟩),(1000000000008,⟨1,false,true,[ai 0,.nil,.nil]⟩),(1000000000010,⟨1,false,true,[ai (leaf:Int),.val v,.ref 49]⟩),(49,⟨1,true,false,ah (dh seed leaf i++ [L.getD x 0])⟩)]) bu (by unfold rL;rw [Di,ep,gM];rfl)
 ·obtain ⟨v,rfl⟩:=List.length_eq_one_iff.1 hv
  exact AQ seed h leaf m _ (h+1) v
 ·refine aJ (al ?_)
  refine bg.RY (AS.mk [(29,.mI 142 [.ptr [ai (h:Int)] 0,.ptr [aw seed] 0]),(10,.addr 10 0),(9,ai 0),(8,.addr 8 0),(6,.addr 6 0),(5,.addr 5 0),(0,aw seed),(3,aw m)] [(5,⟨1,false,true,[ai (h:Int)]⟩),(6,⟨1,false,true,[ai (leaf:Int)]⟩),(8,⟨1,false,true,[ai 0,.nil,.nil]⟩),(10,⟨1,false,true,[ai (leaf:Int),.sl 1 (ah (bS seed leaf m 18)),.ref 49]⟩),(49,⟨1,true,false,ah (dh seed leaf (min (h+1) h))⟩)]) bu ?_
  rw [show min (h+1) h=h by omega]
  refine zP 1 [{}] [.aa [9,29,10,8,6,5,0,3] [8,5,6,10,49]] [yL 3 3]<|zR (bP)
theorem mg (seed:UInt64) (h leaf:Int) (m:UInt64):bG Tryz.prog 51 [aw seed,ai h,ai leaf,aw m] (.cw [.agg [ai (np h leaf),.sl 1 (ah (mN seed h leaf m)),.own 1 (ah (mM seed h leaf))],ai (wS h leaf)]):=by
 by_cases fp:iZ h leaf
 ·have e1:wS h leaf=9:=if_pos fp
  have e2:np h leaf=0:=if_pos fp
  have e3:mN seed h leaf m= []:=if_pos fp
  have e4:mM seed h leaf= []:=if_pos fp
  rw [e1,e2,e3,e4]
  exact HQ seed h leaf m fp
 ·have e1:wS h leaf=0:=if_neg fp
  have e2:np h leaf=leaf:=if_neg fp
  have e3:mN seed h leaf m=bS seed leaf m 18:=if_neg fp
  have e4:mM seed h leaf=dh seed leaf.toNat h.toNat:=if_neg fp
  rw [e1,e2,e3,e4]
  unfold iZ ct at fp
  have sd:0≤h∧h≤4∧0≤leaf:=ag
  obtain ⟨k,rfl⟩:=Int.eq_ofNat_of_zero_le sd.1
  obtain ⟨i,rfl⟩:=Int.eq_ofNat_of_zero_le sd.2.2
  rw [Int.toNat_natCast,Int.toNat_natCast]
  rw [Int.toNat_natCast] at fp
  exact KZ seed k i m ag ag
theorem AW (l1 l2:Int) (c1 p1 c2 p2:List UInt64):bG Tryz.prog 57 [.agg [ai l1,.sl 1 (ah c1),.sl 1 (ah p1)],.agg [ai l2,.sl 1 (ah c2),.sl 1 (ah p2)]] (ao (l1 == l2 && c1 == c2 && p1 == p2)):=by
 by_cases h1:l1=l2
 ·subst h1
  by_cases h2:c1=c2
  ·subst h2
   refine zO Tryz.func57 24<|zP 2 [{},yH [(10,yV (ao (c1 == c1))),(17,yV (ao (p1 == p2)))]] [.aa [4,3,2,0,1] [3,2]] (yM 5 (yB ((l1 == l1)=true) eJ)++ [yI (jF c1 c1),yB ((l1 == l1)=true) eJ]++yM 5 (yS ((c1 == c1)=true))++ [yI (jF p1 p2),yS ((c1 == c1)=true)])<|zR (zV [yB (Value.bool (p1 == p2)=Value.bool (l1 == l1 && c1 == c1 && p1 == p2)) (by simp)])
  ·have e2:(c1 == c2)=false:=by rw [beq_eq_false_iff_ne];exact h2
   refine zO Tryz.func57 24<|zP 2 [{},yH ([(10,yV (ao (c1 == c2))),(18,{b:=false})]++yg [13,14,15,16,17])] [.aa [4,3,2,0,1] [3,2]] (yM 5 (yB ((l1 == l1)=true) eJ)++ [yI (jF c1 c2),yB ((l1 == l1)=true) eJ]++yM 6 (yI e2))<|zR (zV [yB (Value.bool false=Value.bool (l1 == l1 && c1 == c2 && p1 == p2)) (by simp [e2])])
 ·have e1:(l1 == l2)=false:=by rw [beq_eq_false_iff_ne];exact h1
  refine zO Tryz.func57 24<|zP 2 [{},yH ([(11,{b:=false}),(18,{b:=false})]++yg [6,7,8,9,10,13,14,15,16,17])] [.aa [4,3,2,0,1] [3,2]] (yM 6 (yI e1)++yM 6 (yR false))<|zR (zV [yB (Value.bool false=Value.bool (l1 == l2 && c1 == c2 && p1 == p2)) (by simp [e1])])
def dG (leaf:Nat) (P:List UInt64) (x:UInt64):Nat->UInt64
 | 0=>x
 | k+1=>if leaf/2^k%2=0 then hY ((k+1:Nat):Int) (dG leaf P x k) (P.getD k 0) else hY ((k+1:Nat):Int) (P.getD k 0) (dG leaf P x k)
def lR (h:Int) (r m:UInt64) (leaf:Int) (C P:List UInt64):Int :=
 if iZ h leaf then 9 else if C.length≠18∨(P.length:Int)≠h then 4 else if dG leaf.toNat P (combine leaf (cP leaf m C 18)) h.toNat=r then 0 else 15
theorem FE (q:Nat) (hq:q<16):IntKind.i64.wrap ((BitVec.ofInt IntKind.i64.bits (q:Int)&&&BitVec.ofInt IntKind.i64.bits 1).toNat:Nat)=((q%2:Nat):Int):=by
 have key:∀q:Fin 16,IntKind.i64.wrap ((BitVec.ofInt IntKind.i64.bits ((q.val:Nat):Int)&&&BitVec.ofInt IntKind.i64.bits 1).toNat:Nat)=((q.val%2:Nat):Int):=by decide +kernel
 exact key ⟨q,hq⟩
theorem CA (h:Int) (r m:UInt64) (leaf:Int) (C P:List UInt64):bG Tryz.prog 104 [.agg [ai h,aw r],aw m,.agg [ai leaf,.sl 1 (ah C),.sl 1 (ah P)]] (ai (lR h r m leaf C P)):=by
 by_cases fp:iZ h leaf
 ·have e1:lR h r m leaf C P=9:=if_pos fp
  rw [e1]
  unfold iZ at fp
  by_cases hb:ct h
  ·refine zO Tryz.func104 74<|zq<|zS<|zP 1 [yH [(2,yC (dw (h)))]] [.aa [20,6,5,3,0,1,2] [5,3]] ([yI (dw h)]++yM 6 (yT (ct h)))<|zT 20<|zq<|dC (bP)
  have sd:0≤h∧h≤4:=by unfold ct at hb;omega
  obtain ⟨k,rfl⟩:=Int.eq_ofNat_of_zero_le sd.1
  rw [Int.toNat_natCast] at fp
  have ho:leaf<0∨((2^k:Nat):Int)≤leaf:=fp.resolve_left hb
  have hk:k≤4:=ag
  refine zO Tryz.func104 74<|zq<|zS<|zP 1 [yH ([(2,yC (dw ((↑k:Int)))),(8,{av:=some (ao (decide (leaf<0∨(↑((2:Nat)^k):Int)≤leaf))),g:=false}),(9,{b:=false})]++yg [4,5,6,7])] [.aa [20,6,5,3,0,1,2] [5,3]] ([yI (dw ((↑k:Int)))]++yM 5 (yF (ct (↑k:Int)))++ [yI (iS leaf k hk),yF (ct (↑k:Int))])<|iw 20 (leaf<0∨(↑((2:Nat)^k):Int)≤leaf)<|zq<|dC (bP)
 have hv:lR h r m leaf C P=if C.length≠18∨(P.length:Int)≠h then 4 else if dG leaf.toNat P (combine leaf (cP leaf m C 18)) h.toNat=r then 0 else 15:=if_neg fp
 unfold iZ ct at fp
 have sd:0≤h∧h≤4∧0≤leaf:=ag
 obtain ⟨k,rfl⟩:=Int.eq_ofNat_of_zero_le sd.1
 obtain ⟨i,rfl⟩:=Int.eq_ofNat_of_zero_le sd.2.2
 rw [Int.toNat_natCast] at fp
 rw [Int.toNat_natCast,Int.toNat_natCast] at hv
 have hk:k≤4:=ag
 have hb:¬ct (k:Int):=by unfold ct;omega
 have ho:¬((i:Int)<0∨((2^k:Nat):Int)≤i):=ag
 have hp:2^k≤16:=Nat.pow_le_pow_right (by decide) hk
 rw [hv]
 by_cases hC:C.length=18
 case neg =>
  rw [if_pos (.inl hC)]
  refine zO Tryz.func104 74<|zq<|zS<|zP 1 [yH ([(2,yC (dw ((↑k:Int)))),(8,{av:=some (ao (decide ((↑i:Int)<0∨(↑((2:Nat)^k):Int)≤(↑i:Int)))),g:=false}),(9,{b:=false})]++yg [4,5,6,7])] [.aa [20,6,5,3,0,1,2] [5,3]] ([yI (dw ((↑k:Int)))]++yM 5 (yF (ct (↑k:Int)))++ [yI (iS ((↑i:Int)) k hk),yF (ct (↑k:Int))])<|dF 20 ((↑i:Int)<0∨(↑((2:Nat)^k):Int)≤(↑i:Int))<|a_<|zS<|zP 1 [yH [(2,{k:=C.length})]] [.aa [32,20,6,5,3,0,1,2] [5,3]] ([yI (aA C)]++yM 7 (yB (((↑C.length:Int) != (18:Int))=true) (by simp;omega)))<|zT 32<|zq<|dC (bP)
 by_cases hP:P.length=k
 case neg =>
  rw [if_pos (.inr ag)]
  refine zO Tryz.func104 74<|zq<|zS<|zP 1 [yH ([(2,yC (dw ((↑k:Int)))),(8,{av:=some (ao (decide ((↑i:Int)<0∨(↑((2:Nat)^k):Int)≤(↑i:Int)))),g:=false}),(9,{b:=false})]++yg [4,5,6,7])] [.aa [20,6,5,3,0,1,2] [5,3]] ([yI (dw ((↑k:Int)))]++yM 5 (yF (ct (↑k:Int)))++ [yI (iS ((↑i:Int)) k hk),yF (ct (↑k:Int))])<|dF 20 ((↑i:Int)<0∨(↑((2:Nat)^k):Int)≤(↑i:Int))<|a_<|zS<|zP 1 [yH ([(2,{k:=C.length}),(7,{k:=P.length,g:=false}),(11,{b:=false})]++yg [5,6,8,9,10])] [.aa [32,20,6,5,3,0,1,2] [5,3]] ([yI (aA C)]++yM 3 (yS (((↑C.length:Int) != (18:Int))=false))++ [yI (aA P)]++yM 4 (yS (((↑C.length:Int) != (18:Int))=false)))<|dB 32 ((↑P.length:Int) != (↑k:Int)) (by simp;omega)<|zq<|dC (bP)
 rw [if_neg ag]
 have hr:qq i m C=combine i (cP i m C 18):=if_pos hC
 have he:mV C=0:=if_pos hC
 refine zO Tryz.func104 74<|zq<|zS<|zP 1 [yH ([(2,yC (dw ((↑k:Int)))),(8,{av:=some (ao (decide ((↑i:Int)<0∨(↑((2:Nat)^k):Int)≤(↑i:Int)))),g:=false}),(9,{b:=false})]++yg [4,5,6,7])] [.aa [20,6,5,3,0,1,2] [5,3]] ([yI (dw ((↑k:Int)))]++yM 5 (yF (ct (↑k:Int)))++ [yI (iS ((↑i:Int)) k hk),yF (ct (↑k:Int))])<|dF 20 ((↑i:Int)<0∨(↑((2:Nat)^k):Int)≤(↑i:Int))<|a_<|zS<|zP 1 [yH ([(2,{k:=C.length}),(7,{k:=P.length,g:=false}),(11,{b:=false})]++yg [5,6,8,9,10])] [.aa [32,20,6,5,3,0,1,2] [5,3]] ([yI (aA C)]++yM 3 (yS (((↑C.length:Int) != (18:Int))=false))++ [yI (aA P)]++yM 4 (yS (((↑C.length:Int) != (18:Int))=false)))<|bk 32 ((↑P.length:Int) != (↑k:Int)) (by simp_all)<|a_<|zP 1 [yH [(5,yC (sY ((↑i:Int)) (m) (C)))]] [.aa [8,7,32,20,6,5,3,0,1,2] [5,3]] [yI (sY ((↑i:Int)) m C)]<|zS<|zq<|bk 43 (mV C != (0:Int)) (by simp_all)<|a_<|zS<|zP 1 [yH [(2,{k:=P.length})]] [.aa [48,47,46,43,8,7,32,20,6,5,3,0,1,2] [5,3]] [yI (aA P)]<|zB 0 (zL (fun (j:Nat)=>(⟨[(47,ai (↑P.length:Int)),(46,AV.sl 1 (ah P)),(43,ao (mV C != (0:Int))),(8,ai (mV C)),(32,ao ((↑P.length:Int) != (↑k:Int))),(20,ao (decide ((↑i:Int)<0∨(↑((2:Nat)^k):Int)≤(↑i:Int)))),(6,ai 0),(5,AV.addr 5 0),(3,AV.addr 3 0),(0,AV.agg [ai ↑k,aw r]),(1,aw m),(2,AV.agg [ai ↑i,AV.sl 1 (ah C),AV.sl 1 (ah P)]),(48,ai j),(7,aw (dG i P (combine i (cP i m C 18)) j))],[(5,⟨1,false,true,[ai ↑i,AV.sl 1 (ah C),AV.sl 1 (ah P)]⟩),(3,⟨1,false,true,[ai ↑k,aw r]⟩)]⟩:AS)) (fun j=>(j≤k)) (fun j=>(k-j)) (0) ?_ (eS [.aa [47,46,43,8,32,20,6,5,3,0,1,2,48,7] [5,3]] [7] [] [yB (aw (qq (↑i:Int) m C)=aw (dG i P (combine (↑i:Int) (cP (↑i:Int) m C 18)) 0)) (congrArg aw hr)]) ?_)
 ·omega
 intro j hj
 refine bg.mj 1 [{}] bu (s':=AS.mk [(49,ao (decide ((↑j:Int)<(↑P.length:Int)))),(47,ai (↑P.length:Int)),(46,AV.sl 1 (ah P)),(43,ao (mV C != (0:Int))),(8,ai (mV C)),(32,ao ((↑P.length:Int) != (↑k:Int))),(20,ao (decide ((↑i:Int)<0∨(↑((2:Nat)^k):Int)≤(↑i:Int)))),(6,ai 0),(5,AV.addr 5 0),(3,AV.addr 3 0),(0,AV.agg [ai ↑k,aw r]),(1,aw m),(2,AV.agg [ai ↑i,AV.sl 1 (ah C),AV.sl 1 (ah P)]),(48,ai ↑j),(7,aw (dG i P (combine (↑i:Int) (cP (↑i:Int) m C 18)) j))] [(5,Row.mk 1 false true [ai ↑i,AV.sl 1 (ah C),AV.sl 1 (ah P)]),(3,Row.mk 1 false true [ai ↑k,aw r])]) (C:=[]) bu trivial<|zS (zD 49 ((↑j:Int)<(↑P.length:Int)) (fun g=>?_) (fun g=>?_))
 ·have hs:=xu i j ag
  have hle:i/2^j≤i:=Nat.div_le_self ..
  have hq:i/2^j<16:=ag
  have ha:=FE _ hq
  have Lq:(0:Int)≤wv (u64 (j:Int)):=Int.natCast_nonneg _
  have SQ:IntKind.i64.wrap ((j:Int)+1)=((j+1:Nat):Int):=by rw [ft ag ag];omega
  have hc:dG i P (combine i (cP i m C 18)) (j+1)=if i/2^j%2=0 then hY ((j+1:Nat):Int) (dG i P (combine i (cP i m C 18)) j) (P.getD j 0) else hY ((j+1:Nat):Int) (P.getD j 0) (dG i P (combine i (cP i m C 18)) j):=rfl
  generalize i/2^j=q at *
  generalize hx:dG i P (combine i (cP i m C 18)) j=x at *
  by_cases h2:q%2=0
  ·rw [if_pos h2] at hc
   generalize q%2=q2 at *
   refine a_<|zS<|zB 1<|zP 2 [yH [(1,{k:=j}),(2,yV (aw (P.getD j 0)))],yH [(3,yV (ai ↑q)),(4,yV (ai ↑q2))]] [.aa [58,10,9,49,47,46,43,8,32,20,6,5,3,0,1,2,48,7] [5,3]] [yR (↑j:Int),yB (j<(ah P).length) (by simp only [aA];omega),yB ((ah P)[j]?=some (aw (P.getD j 0))) (dX ag),yI (yc hs),yO ((0:Int)≤(↑j:Int)),yI (yc ha)]<|dB 58 ((↑q2:Int) == (0:Int)) eJ<|zX (yH [(1,yV (ai (↑(j+1):Int))),(4,yV (aw (hY (↑(j+1):Int) x (P.getD j 0))))]) [yB (ai (IntKind.i64.wrap ((↑j:Int)+1))=ai (↑(j+1):Int)) (eN ag ag),yI (pQ (↑(j+1):Int) x (P.getD j 0))]<|aJ<|al<|bg.PL {hs:=[(0,{av:=some (ai ((↑j:Int)+1))})]} (s':=AS.mk [(48,ai ((↑j:Int)+1)),(69,ai ((↑j:Int)+1)),(7,aw (hY (↑(j+1):Int) x (P.getD j 0))),(63,aw (hY (↑(j+1):Int) x (P.getD j 0))),(62,aw (P.getD j 0)),(61,aw x),(60,ai (↑(j+1):Int)),(59,ai ↑j),(58,ao ((↑q2:Int) == (0:Int))),(10,aw (P.getD j 0)),(9,ai ↑j),(49,ao (decide ((↑j:Int)<(↑P.length:Int)))),(47,ai (↑P.length:Int)),(46,AV.sl 1 (ah P)),(43,ao (mV C != (0:Int))),(8,ai (mV C)),(32,ao ((↑P.length:Int) != (↑k:Int))),(20,ao (decide ((↑i:Int)<0∨(↑((2:Nat)^k):Int)≤(↑i:Int)))),(6,ai 0),(5,AV.addr 5 0),(3,AV.addr 3 0),(0,AV.agg [ai ↑k,aw r]),(1,aw m),(2,AV.agg [ai ↑i,AV.sl 1 (ah C),AV.sl 1 (ah P)])] [(5,Row.mk 1 false true [ai ↑i,AV.sl 1 (ah C),AV.sl 1 (ah P)]),(3,Row.mk 1 false true [ai ↑k,aw r])]) (C:=[ai (IntKind.i64.wrap ((↑j:Int)+1))=ai ((↑j:Int)+1)]) bu ⟨(eN ag ag),trivial⟩ (aH (j+1) ag ag (eS [.aa [47,46,43,8,32,20,6,5,3,0,1,2,48,7] [5,3]] [7] [] [yB (aw (hY (↑(j+1):Int) x (P.getD j 0))=aw (dG i P (combine (↑i:Int) (cP (↑i:Int) m C 18)) (j+1))) (by rw [hc])]))
  ·rw [if_neg h2] at hc
   generalize q%2=q2 at *
   refine a_<|zS<|zB 1<|zP 2 [yH [(1,{k:=j}),(2,yV (aw (P.getD j 0)))],yH [(3,yV (ai ↑q)),(4,yV (ai ↑q2))]] [.aa [58,10,9,49,47,46,43,8,32,20,6,5,3,0,1,2,48,7] [5,3]] [yR (↑j:Int),yB (j<(ah P).length) (by simp only [aA];omega),yB ((ah P)[j]?=some (aw (P.getD j 0))) (dX ag),yI (yc hs),yO ((0:Int)≤(↑j:Int)),yI (yc ha)]<|bk 58 ((↑q2:Int) == (0:Int)) bD<|zX (yH [(1,yV (ai (↑(j+1):Int))),(4,yV (aw (hY (↑(j+1):Int) (P.getD j 0) x)))]) [yB (ai (IntKind.i64.wrap ((↑j:Int)+1))=ai (↑(j+1):Int)) (eN ag ag),yI (pQ (↑(j+1):Int) (P.getD j 0) x)]<|aJ<|al<|zX (yH [(0,yV (ai ((↑j:Int)+1)))]) [yN ((↑j:Int)+1)] (aH (j+1) ag ag (eS [.aa [47,46,43,8,32,20,6,5,3,0,1,2,48,7] [5,3]] [7] [] [yB (aw (hY (↑(j+1):Int) (P.getD j 0) x)=aw (dG i P (combine (↑i:Int) (cP (↑i:Int) m C 18)) (j+1))) (by rw [hc])]))
 ·have e:j=k:=ag
  subst e
  by_cases kA:dG i P (combine i (cP i m C 18)) j=r
  ·rw [if_pos kA]
   refine zE 0<|a6<|aM<|bm<|al<|zS<|zP 1 [yH [(3,yV (ao (dG i P (combine (↑i:Int) (cP (↑i:Int) m C 18)) j != r)))]] [.aa [73,49,47,46,43,8,32,20,6,5,3,0,1,2,48,7] [5,3]] [yI (cG (dG i P (combine (↑i:Int) (cP (↑i:Int) m C 18)) j) r)]<|bk 73 (dG i P (combine (↑i:Int) (cP (↑i:Int) m C 18)) j != r) (by simp_all)<|a_<|zq<|zR (bP)
  ·rw [if_neg kA]
   refine zE 0<|a6<|aM<|bm<|al<|zS<|zP 1 [yH [(3,yV (ao (dG i P (combine (↑i:Int) (cP (↑i:Int) m C 18)) j != r)))]] [.aa [73,49,47,46,43,8,32,20,6,5,3,0,1,2,48,7] [5,3]] [yI (cG (dG i P (combine (↑i:Int) (cP (↑i:Int) m C 18)) j) r)]<|dB 73 (dG i P (combine (↑i:Int) (cP (↑i:Int) m C 18)) j != r) (by simp_all)<|zq<|dC (bP)
instance:Inhabited ic:=⟨⟨[],0,[],[]⟩⟩
def Iy (a b:List UInt8):Bool:=Op.bytesLess (⟨a.toArray⟩:ByteArray).toList (⟨b.toArray⟩:ByteArray).toList
def gO (leaf:Int):UInt64:=(1:UInt64)<<<UInt64.ofNat leaf.toNat
def Li (l:List Mem) (n:List UInt8):Mem:=l.getD (dZ l n).toNat default
def ki (g:ig) (w:UInt64) (l:List ic) (i:Nat):Int :=
 if 0<i∧Gi (l.getD i default).name (l.getD (i-1) default).name=true then 7 else if dZ g.aq (l.getD i default).name<0 then 11
 else if lR (Li g.aq (l.getD i default).name).h (Li g.aq (l.getD i default).name).r w (l.getD i default).leaf (l.getD i default).cM (l.getD i default).path≠0 then lR (Li g.aq (l.getD i default).name).h (Li g.aq (l.getD i default).name).r w (l.getD i default).leaf (l.getD i default).cM (l.getD i default).path
 else if (Li g.aq (l.getD i default).name).used&&&gO (l.getD i default).leaf≠0 then 37 else 0
def fT (g:ig) (w:UInt64) (l:List ic):Int:=if ff (ki g w l) l.length≠0 then ff (ki g w l) l.length else if (l.length:Int)<g.bA then 41 else 0
def q8 (l:List Mem) (k:Nat):List Mem:=l.take k++l.drop (k+1)
def tK (g:ig) (l:List (List UInt8)) (i:Nat):Int:=if dZ g.aq (l.getD i default)<0 then 11 else 0
def gW (g:ig) (e:fC):Int :=
 if e.kind=1 then (if 0≤dZ g.aq e.name then 10 else if 8≤g.aq.length then 12 else 0)
 else if e.kind=2 then (if dZ g.aq e.name<0 then 11 else if (g.aq.length:Int)-1<g.bA then 41 else 0)
 else if e.kind=3 then (if (g.aq.length:Int)<e.bA∨2*e.bA≤g.aq.length then 41 else 0)
 else if e.kind=4 then (if 8≤g.aU.length then 12 else if wP g.aU e.dep.bV<g.aU.length then 10 else ff (tK g e.dep.ae) e.dep.ae.length)
 else if wP g.aU e.bV=g.aU.length then 11 else if (g.aU.getD (wP g.aU e.bV) default).target≠0 then 18 else 0
def uV (l:List nH) (k:Nat) (t:UInt64):List nH:=l.set k {l.getD k default with target:=t}
def c_ (g:ig) (e:fC):ig :=
 if gW g e≠0 then g else if e.kind=1 then {g with bA:=if 2*g.bA≤g.aq.length+1 then g.bA+1 else g.bA,aq:=g.aq++ [⟨e.name,e.kh,e.kr,0⟩]}
 else if e.kind=2 then {g with aq:=q8 g.aq (dZ g.aq e.name).toNat} else if e.kind=3 then {g with bA:=e.bA}
 else if e.kind=4 then {g with aU:=g.aU++ [e.dep]} else {g with aU:=uV g.aU (wP g.aU e.bV) e.target}
def qg (l:List Mem) (v:ic):List Mem:=if dZ l v.name<0 then l else l.set (dZ l v.name).toNat {Li l v.name with used:=(Li l v.name).used|||gO v.leaf}
def kt (l:List Mem) (vs:List ic):List Mem:=vs.foldl qg l
def gQ (g:ig) (e:fC):Int:=if fa e≠0 then fa e else if e.aC≠g.aC+1∨e.prev≠g.head then 42 else if fT g (cJ e) e.ak≠0 then fT g (cJ e) e.ak else gW g e
def jC (g:ig) (e:fC):ig:=if gQ g e≠0 then g else ⟨e.aC,cJ e,(c_ g e).bA,kt (c_ g e).aq e.ak,(c_ g e).aU⟩
def va (l:List ic) (n:List UInt8):Nat:=(l.takeWhile fun v=>Iy v.name n).length
def JZ (l:List ic) (n:List UInt8):Bool:=l.any fun v=>v.name == n
def iB (e:fC) (n:List UInt8) (h leaf:Int):Int:=if fa e≠0 then fa e else if JZ e.ak n=true then 10 else wS h leaf
def lA (l:List ic) (v:ic):List ic:=l.take (va l v.name)++ [v]++l.drop (va l v.name)
def pc (e:fC) (n:List UInt8) (seed:UInt64) (h leaf:Int):fC :=
 if iB e n h leaf≠0 then ⟨0,0,0,[],0,0,0,⟨0,0,[],[],[],0,0⟩,0,0,[]⟩ else {e with ak:=lA e.ak ⟨n,np h leaf,mN seed h leaf (cJ e),mM seed h leaf⟩}
theorem uE {h:Int} {r m:UInt64} {leaf:Int} {C P:List UInt64} (e:lR h r m leaf C P=0):0≤leaf∧leaf<16:=by
 have nb:¬iZ h leaf:=by
  intro q
  unfold lR at e
  rw [if_pos q] at e;omega
 unfold iZ ct at nb
 have:2^h.toNat≤2^4:=Nat.pow_le_pow_right (by decide) ag
 omega
theorem OQ (u:UInt64) (n:Nat) (h:n<64):((u>>>UInt64.ofNat n)&&&1=1)↔u&&&((1:UInt64)<<<UInt64.ofNat n)≠0:=by
 have hn:(UInt64.ofNat n).toNat%64=n:=by rw [UInt64.toNat_ofNat_of_lt' (by show n<2^64;omega)];omega
 have h1:((u>>>UInt64.ofNat n)&&&1=1)↔u.toNat.testBit n=true:=by
  rw [←UInt64.toNat_inj,UInt64.toNat_and,UInt64.toNat_shiftRight,hn]
  show (u.toNat>>>n)&&&1=1↔_
  rw [Nat.and_one_is_mod,Nat.testBit]
  simp [Nat.one_and_eq_mod_two]
 have h2:u&&&((1:UInt64)<<<UInt64.ofNat n)=0↔u.toNat.testBit n=false:=by
  rw [←UInt64.toNat_inj,UInt64.toNat_and,UInt64.toNat_shiftLeft,hn]
  show u.toNat&&&((1<<<n)%2^64)=0↔_
  rw [Nat.mod_eq_of_lt (by rw [Nat.one_shiftLeft];exact Nat.pow_lt_pow_right (by decide) h),Nat.one_shiftLeft]
  constructor
  ·intro q
   cases hb:u.toNat.testBit n with
   | false=>rfl
   | true =>
    have:=congrArg (fun x=>x.testBit n) q
    simp [Nat.testBit_and,hb,Nat.testBit_two_pow_self] at this
  ·intro q
   refine Nat.eq_of_testBit_eq fun i=>?_
   rw [Nat.testBit_and,Nat.testBit_two_pow,Nat.zero_testBit]
   by_cases e:n=i
   ·subst e;rw [q];rfl
   ·simp [e]
 rw [h1,ne_eq,h2]
 cases u.toNat.testBit n<;>simp
theorem gU (l:List Mem) (n:List UInt8):dZ l n= -1∨ ∃k:Nat,dZ l n=k∧k<l.length∧(l.getD k default).name=n:=by
 unfold dZ
 split
 ·rename_i h
  obtain ⟨m,hm,e⟩:=h
  have cW:=List.findIdx_lt_length_of_exists (p:=fun m:Mem=>m.name == n) ⟨m,hm,by simp [e]⟩
  refine .inr ⟨_,rfl,cW,?_⟩
  have:=List.findIdx_getElem (p:=fun m:Mem=>m.name == n) (w:=cW)
  rw [List.getD_eq_getElem?_getD,List.getElem?_eq_getElem cW]
  simpa using this
 ·exact .inl rfl
section
variable {P:Program}
theorem rH {ops:Array Oper} {o:Oper} {a:Act} {w:World} {K:Act->World->Prop} {Q:Exit->Act->World->Prop} {E:Prop} (hg:o.guard=none) (d x:Operand) (dT sT:TypeId) (uc:o.op=Op.call {callee:=Callee.builtin Builtin.append,args:= #[d,x],argTypes:= #[dT,sT]})
  (v u:Value) (hd:a.eval d=v) (hx:a.eval x=u) {v':Value} {w':World} (hr:(Builtin.append_ #[dT,sT] o.type #[v,u]).run P w= .ok v' w') (hK:K (a.put o.dst v') w'):if Region.wanted o (yielded ops a.tmps)=true then Oper.wp P o a w K Q else E:=by
 have hw:Region.wanted o (yielded ops a.tmps)=true:=by simp [Region.wanted,hg]
 rw [if_pos hw]
 unfold Oper.wp
 simp [execOp,uc,resolve,invoke,builtin,hd,hx,hr,Result.andThen]
 exact hK
theorem wU (w:World) (t ty e:TypeId) (i:TypeInfo) (ht:P.underlying t=some (.slice e)) (hi:P.info? e=some i) (g uR FU:Nat) (cur:Array Value) (te:TypeId) (fr:Nat×Nat) (hg:w.heap[g]?=some (.cells cur te fr)) (gu:∀j,j<cur.size-> ¬(fr.1≤j∧j<fr.2))
  (a:Addr) (m c:Nat) (news:List Value) (hl:news.length=m*i.size) (jo:∀j u,news[j]?=some u->w.cell? (a.add j)=some u) (h1:∀u∈news,u.oneCell'=true) (lK:uR+m≤FU) (l4:uR*i.size+news.length≤cur.size) :
  (Builtin.append_ #[t,t] ty #[.slice (some ⟨g,0,none⟩) uR FU,.slice (some a) m c]).run P w= .ok (.slice (some ⟨g,0,none⟩) (uR+m) FU) (w.setRow g (cur.toList.take (uR*i.size)++news++cur.toList.drop (uR*i.size+news.length)).toArray):=by
 have hf:=run_firstCells_some (P:=P) w i.size m a m c news hl jo
 have dJ:=cE P g te fr cur.size gu (uR*i.size) news 0 cur w hg (by simpa using l4) rfl h1
 simp only [Nat.add_zero] at dJ
 simp [Builtin.append_,run_underlying ht,sizeOf,typeInfo,hi,Builtin.lenOf,lK,hf,Addr.add_lit,dJ]
theorem yt (w:World) (t e ty:TypeId) (z:Value) (ht:P.underlying t=some (.slice e)) (hv:∀w,(zeroValue e).run P w= .ok z w) (g o n c:Nat) (hn:0<n) (cur:Array Value) (te:TypeId) (fr:Nat×Nat) (hg:w.heap[g]?=some (.cells cur te fr)) (gu:∀j,j<cur.size-> ¬(fr.1≤j∧j<fr.2))
  (zs:List Value) (hz:(Builtin.zeroCells z.cells n).toList=zs) (h1:∀u∈zs,u.oneCell'=true) (l4:o+zs.length≤cur.size) :
  (Builtin.clear_ #[t] ty #[.slice (some ⟨g,o,none⟩) n c]).run P w= .ok (.tuple #[]) (w.setRow g (cur.toList.take o++zs++cur.toList.drop (o+zs.length)).toArray):=by
 have dJ:=cE P g te fr cur.size gu o zs 0 cur w hg (by simpa using l4) rfl h1
 simp only [Nat.add_zero] at dJ
 obtain ⟨m,rfl⟩:∃m,n=m+1:=⟨n-1,ag⟩
 simp [Builtin.clear_,run_underlying ht,hv,hz,dJ]
end
def KN:Value:=.agg #[.string ⟨#[]⟩,.int .i64 0,.int .u64 0,.int .u64 0]
def J7 (cur:List Value) (n i:Nat):List Value:=cur.take (i*4)++(cur.take (n*4)).drop ((i+1)*4)
set_option maxHeartbeats 4000000 in
set_option maxRecDepth 1000000 in
theorem D8 (w:World) (g n m c i j:Nat) (hj:j=i+1) (hm:n=m+1) (cur:Array Value) (te:TypeId) (fr:Nat×Nat) (hg:w.heap[g]?=some (.cells cur te fr)) (gu:∀t,t<cur.size-> ¬(fr.1≤t∧t<fr.2)) (hs:cur.size=4*c) (hn:n≤c) (hi:i<n) (h1:∀(t:Nat) u,t<n*4->cur[t]?=some u->u.oneCell'=true) :
  Calls Tryz.prog 152 #[.slice (some ⟨g,0,none⟩) n c,.int .i64 i,.int .i64 j] w fun e w'=>e= .returned (.slice (some ⟨g,0,none⟩) m c)∧ ∃cur',w'=w.drew.setRow g cur'∧cur'.size=cur.size∧ ∀t,t<m*4->cur'[t]?=(J7 cur.toList n i)[t]?:=by
 have mixed:Tryz.prog.follows .mixedOrders=true:=by kernel_rfl
 obtain ⟨i0,Fh,km,P2⟩:∃i0:TypeInfo,Tryz.prog.info? 51=some i0∧i0.size=4∧i0.zero=some KN:=by
  have h:(Tryz.prog.info? 51).map (fun i=>(i.size,i.zero))=some (4,some KN):=by kernel_rfl
  cases hp:Tryz.prog.info? 51 with
  | none=>rw [hp] at h;cases h
  | some i=>rw [hp] at h;simp at h;exact ⟨i,rfl,h⟩
 have fi:cur.toList.length=4*c:=by simp [hs]
 obtain ⟨news,jo⟩:∃news,news=(cur.toList.take (n*4)).drop (j*4):=⟨_,rfl⟩
 have oS:news.length=(n-j)*4:=by rw [jo,List.length_drop,List.length_take,fi];omega
 have vH:∀t,t<(n-j)*4->news[t]?=cur[j*4+t]?:=fun t ht=>by
  rw [jo,List.getElem?_drop,List.getElem?_take,if_pos ag,Array.getElem?_toList]
 obtain ⟨A,hA,gq⟩:∃A:Addr,(if c=j then some (⟨g,0,none⟩:Addr) else some ⟨g,j*4,none⟩)=some A∧(∀t u,news[t]?=some u->w.drew.cell? (A.add t)=some u):=by
  by_cases h:c=j
  ·refine ⟨⟨g,0,none⟩,by simp [h],fun t u hu=>?_⟩
   have h0:news.length=0:=by rw [oS];omega
   rw [List.length_eq_zero_iff.1 h0] at hu
   simp at hu
  ·refine ⟨⟨g,j*4,none⟩,by simp [h],fun t u hu=>?_⟩
   have ht:t<(n-j)*4:=by
    have:=(List.getElem?_eq_some_iff.1 hu).1
    rwa [oS] at this
   rw [vH t ht] at hu
   rw [Addr.add_lit]
   show w.cell? _=_
   simp only [World.cell?,hg]
   exact hu
 have og:∀u∈news,u.oneCell'=true:=fun u hu=>by
  obtain ⟨t,ht⟩:=List.getElem?_of_mem hu
  have ua:t<(n-j)*4:=by
   have:=(List.getElem?_eq_some_iff.1 ht).1
   rwa [oS] at this
  rw [vH t ua] at ht
  exact h1 _ _ ag ht
 obtain ⟨gm,qN⟩:∃gm,gm=(cur.toList.take (i*4)++news++cur.toList.drop (i*4+news.length)).toArray:=⟨_,rfl⟩
 have KI:∀ty,(Builtin.append_ #[38,38] ty #[.slice (some ⟨g,0,none⟩) i c,.slice (some A) (n-j) (c-j)]).run Tryz.prog w.drew= .ok (.slice (some ⟨g,0,none⟩) m c) (w.drew.setRow g gm):=fun ty=>by
  have h:=wU (P:=Tryz.prog) w.drew 38 ty 51 i0 Tryz.underlying38 Fh g i c cur te fr hg gu A (n-j) (c-j) news (by rw [oS,km]) gq og ag (by rw [km,oS,hs];omega)
  rw [km,show i+(n-j)=m by omega] at h
  rw [qN];exact h
 have gG:gm.size=cur.size:=by
  rw [qN];simp only [List.size_toArray,List.length_append,List.length_take,List.length_drop,oS,fi,hs];omega
 have Cw:(w.drew.setRow g gm).heap[g]?=some (.cells gm te fr):=setRow_heap w.drew g cur gm te fr hg
 obtain ⟨zs,tE⟩:∃zs:List Value,zs= [.string ⟨#[]⟩,.int .i64 0,.int .u64 0,.int .u64 0]:=⟨_,rfl⟩
 have Ry:(Builtin.zeroCells KN.cells 1).toList=zs:=by rw [tE];kernel_rfl
 have He:zs.length=4:=by rw [tE];rfl
 have Rz:∀u∈zs,u.oneCell'=true:=by rw [tE];simp [Value.oneCell']
 obtain ⟨oy,qM⟩:∃oy,oy=(gm.toList.take (m*4)++zs++gm.toList.drop (m*4+zs.length)).toArray:=⟨_,rfl⟩
 have Wp:∀ty,(Builtin.clear_ #[38] ty #[.slice (some ⟨g,m*4,none⟩) (n-m) (c-m)]).run Tryz.prog (w.drew.setRow g gm)= .ok (.tuple #[]) ((w.drew.setRow g gm).setRow g oy):=fun ty=>by
  rw [show n-m=1 by omega,qM]
  exact yt (P:=Tryz.prog) _ _ _ ty KN Tryz.underlying38 (fun w=>il (by rw [Fh];exact P2)) g _ 1 _ ag gm te fr Cw (fun t ht=>gu t ag) zs Ry Rz (by rw [He,gG,hs];omega)
 have fin:∃cur',(w.drew.setRow g gm).setRow g oy=w.drew.setRow g cur'∧cur'.size=cur.size∧ ∀t,t<m*4->cur'[t]?=(J7 cur.toList n i)[t]?:=by
  refine ⟨oy,?_,?_,fun t ht=>?_⟩
  ·unfold World.setRow
   congr 1
   apply Array.ext_getElem?
   intro b
   simp only [Array.getElem?_modify]
   by_cases hb:g=b
   ·subst hb
    simp only [if_pos]
    rw [show w.drew.heap[g]?=some (.cells cur te fr) from hg];rfl
   ·simp only [if_neg hb]
  ·rw [qM];simp only [List.size_toArray,List.length_append,List.length_take,List.length_drop,He,Array.length_toList,gG,hs];omega
  ·rw [qM,List.getElem?_toArray,List.append_assoc,List.getElem?_append_left (by rw [List.length_take,Array.length_toList,gG,hs];omega),List.getElem?_take,if_pos ht,qN]
   rw [List.getElem?_append_left (by simp only [List.length_append,List.length_take,oS,fi];omega),jo];unfold J7;rw [←hj]
 have b1:i≤c:=ag
 have b2:j≤c:=ag
 have b3:¬((i:Int)=(j:Int)):=ag
 have b4:j≤n:=ag
 have b5:i≤n:=ag
 have b6:i≤j:=ag
 have e1:i+(n-j)=m:=ag
 have b8:m≤n:=ag
 have b9:m≤c:=ag
 have Xd:¬(c=m):=ag
 clear hj hm
 clear qN qM jo vH gq og gG Cw tE Ry He Rz oS fi h1
 go_enter Tryz.func152,Tryz.ntmps152
 go_wp2_with fail
 go_region_law_o (refine rH rfl (.tmp 22) (.tmp 25) 38 38 rfl (.slice (some ⟨g,0,none⟩) i c) (.slice (some A) (n-j) (c-j)) (by simp [Act.eval,Act.put]) (by simp [Act.eval,Act.put]) (KI _) ?_)
 go_wp2
 go_ret
 exact ⟨rfl,fin⟩
theorem J6 (l:List Mem) (i:Nat) (hi:i<l.length) (cur:List Value) (t:Nat) (u:Value) (x:AV) (hu:(J7 cur l.length i)[t]?=some u) (hx:(af aT (q8 l i))[t]?=some x) (hl:l.length*4≤cur.length):∃k:Nat,cur[k]?=some u∧(af aT l)[k]?=some x:=by
 have LH:(af aT l).length=l.length*4:=aE (e:=4) (fun _=>rfl) ..
 have e:af aT (q8 l i)=(af aT l).take (i*4)++(af aT l).drop ((i+1)*4):=by
  rw [mD (e:=4) (fun _=>rfl),mE (e:=4) (fun _=>rfl),fb];rfl
 rw [e] at hx
 unfold J7 at hu
 by_cases c:t<i*4
 ·rw [List.getElem?_append_left (by rw [List.length_take];omega),List.getElem?_take,if_pos c] at hu hx
  exact ⟨t,hu,hx⟩
 ·rw [List.getElem?_append_right (by rw [List.length_take];omega),List.length_take,Nat.min_eq_left ag,List.getElem?_drop] at hu hx
  rw [List.getElem?_take] at hu
  split at hu
  ·exact ⟨_,hu,hx⟩
  ·cases hu
theorem Cg (l:List Mem) (i:Nat) (hi:i<l.length):gn Tryz.prog 152 [.ref 5,ai i,ai (i+1:Nat)] [(5,⟨4,true,false,af aT l⟩)] (.own 4 (af aT (q8 l i))) [(5,⟨4,true,false,af aT []⟩)]:=by
 have LH:(af aT l).length=l.length*4:=aE (e:=4) (fun _=>rfl) ..
 have ue:(af aT (q8 l i)).length=(l.length-1)*4:=by
  rw [aE (e:=4) (fun _=>rfl)]
  unfold q8
  simp only [List.length_append,List.length_take,List.length_drop];omega
 have nw:cp (af aT l):=dm (fun x=>dr rfl) _
 intro w S φ vs ko XN hL hlen dW
 obtain ⟨a,b,c,rfl⟩:=MV hlen rfl
 have d0:=dW 0 a _ rfl rfl
 have hr:=hL.rows 5 _ rfl
 have eb:b= .int .i64 i:=bF (dW 1 b _ rfl rfl)
 have ec:c= .int .i64 (i+1:Nat):=bF (dW 2 c _ rfl rfl)
 subst eb ec
 cases d0 with
 | rep h=>cases h
 | cm _ e' hI =>
  have hI:some (_,(af aT l).length,_)=some (e',0,none):=hI
  injection hI with hI;injection hI with _ hI;injection hI with hI _
  omega
 | ref _ e m g n k hI hm hk hx hs =>
  have hI:some (4,(af aT l).length,φ 5)=some (e,m,some g):=hI
  injection hI with hI;injection hI with e1 hI;injection hI with e2 bW
  subst e1 e2
  rw [bW] at hr
  obtain ⟨cur,te,fr,hg,gu,hle,-,hc⟩:=hr
  have uf:cur.size=4*k:=by unfold aW at hs;rw [hg] at hs;exact hs
  have oS:n=l.length:=ag
  subst oS
  have bU:∀(j:Nat) u x,cur[j]?=some u->(af aT l)[j]?=some x->cz S w u x:=hc
  refine (D8 w g l.length (l.length-1) k i (i+1) rfl ag cur te fr hg gu uf hk hi fun t u ht hu=>?_).mono ?_
  ·have P4:(af aT l)[t]?=some (af aT l)[t]:=List.getElem?_eq_getElem ag
   exact tV (bU t u _ hu P4) (nw _ (List.getElem_mem _))
  rintro e w' ⟨rfl,cur',rfl,bY,Oc⟩
  have dv:(w.drew.setRow g cur').heap.size=w.heap.size:=by simp [World.setRow]
  have LD:g<w.heap.size:=hL.lt 5 g bW
  have Ut:∀id,id≠5->φ id=none:=fun id h=>hL.only id (by
   rw [aD,if_neg fun e=>h e.symm];rfl)
  refine ⟨_,[g],fun _=>none,rfl,rfl,rfl,rfl,by rw [dv];exact Nat.le_refl _,fun b hb TE=>?_,by simp,fun b hb=>?_,fun id b h=>(by cases h),fun id b _ h=>(by cases h),⟨fun b hb=>?_,fun _ _=>rfl,fun id pe b h=>(by cases h),fun id b h=>(by cases h),fun id r hr=>?_⟩,?_⟩
  ·exact setRow_other w.drew g b _ fun e=>TE ⟨5,by rw [e];exact bW⟩
  ·obtain rfl:=List.mem_singleton.1 hb
   exact ⟨.inr ⟨5,bW⟩,by rw [dv];exact LD,fun ⟨id,h⟩=>by cases h⟩
  ·refine ⟨?_,hb.2.2⟩
   rcases hb.1 with h|h
   ·rw [dv];exact (hL.sep b h).1
   ·exact h.2
  ·rw [aD] at hr
   split at hr
   ·cases hr;rfl
   ·cases hr
  ·refine .inl (.inl (.own g (l.length-1) k 4 _ cur' te fr (setRow_heap w.drew g cur cur' te fr hg) (fun t ht=>gu t ag) (by rw [ue];omega) ag hx (by rw [bY,uf]) fun t u x hu hx=>?_))
   have ht:t<(l.length-1)*4:=by have:=(List.getElem?_eq_some_iff.1 hx).1;omega
   rw [Oc t ht] at hu
   obtain ⟨q,h1,h2⟩:=J6 l i hi cur.toList t u x hu hx (by simp;omega)
   refine (bU q u x (by simpa using h1) h2).mono fun b hb=>?_
   have cS:b≠g:=fun e=>(hL.sep b hb).2 ⟨5,by rw [e];exact bW⟩
   exact ⟨⟨.inl hb,fun q=>cS (List.mem_singleton.1 q),fun ⟨id,h⟩=>(by cases h)⟩,setRow_other w.drew g b _ cS⟩
section
variable {P:Program}
theorem lE (w:World) (t ty e:TypeId) (i:TypeInfo) (ht:P.underlying t=some (.slice e)) (hi:P.info? e=some i) (g o Rc Ua:Nat) (a:Addr) (uR FU k:Nat) (hk:Nat.min uR Rc=k) (cur:Array Value) (te:TypeId) (fr:Nat×Nat) (hg:w.heap[g]?=some (.cells cur te fr)) (gu:∀j,j<cur.size-> ¬(fr.1≤j∧j<fr.2))
  (news:List Value) (hl:news.length=k*i.size) (jo:∀j u,news[j]?=some u->w.cell? (a.add j)=some u) (h1:∀u∈news,u.oneCell'=true) (l4:o+news.length≤cur.size) :
  (Builtin.copy_ #[t,t] ty #[.slice (some ⟨g,o,none⟩) Rc Ua,.slice (some a) uR FU]).run P w= .ok (goInt k) (w.setRow g (cur.toList.take o++news++cur.toList.drop (o+news.length)).toArray):=by
 have hf:=run_firstCells_some (P:=P) w i.size k a uR FU news hl jo
 have dJ:=cE P g te fr cur.size gu o news 0 cur w hg (by simpa using l4) rfl h1
 simp only [Nat.add_zero] at dJ
 simp [Builtin.copy_,run_underlying ht,sizeOf,typeInfo,hi,Builtin.lenOf,hk,hf,dJ]
theorem yo (w:World) (g:Nat) (cur gm oy:Array Value) (te:TypeId) (fr:Nat×Nat) (hg:w.heap[g]?=some (.cells cur te fr)):(w.setRow g gm).setRow g oy=w.setRow g oy:=by
 unfold World.setRow
 congr 1
 apply Array.ext_getElem?
 intro b
 simp only [Array.getElem?_modify]
 by_cases hb:g=b
 ·subst hb
  simp only [if_pos]
  rw [hg];rfl
 ·simp only [if_neg hb]
end
def vA (cur:List Value) (n i:Nat) (vs:List Value):List Value:=cur.take (i*4)++vs++(cur.take (n*4)).drop (i*4)
theorem Gm {cur vs news:List Value} {n i c:Nat} (fi:cur.length=4*c) (hi:i<n) (hc:n+1≤c) (hv:vs.length=4) (hn:news=(cur.take (n*4)).drop (i*4)) {gm:List Value} (h1:gm=cur.take ((i+1)*4)++news++cur.drop ((i+1)*4+news.length)) (t:Nat) (ht:t<(n+1)*4) :
  (gm.take (i*4)++vs++gm.drop (i*4+vs.length))[t]?=(vA cur n i vs)[t]?:=by
 have oS:news.length=(n-i)*4:=by rw [hn,List.length_drop,List.length_take,fi];omega
 have e1:gm.take (i*4)=cur.take (i*4):=by
  rw [h1,List.append_assoc,List.take_append_of_le_length (by rw [List.length_take,fi];omega),List.take_take,Nat.min_eq_left ag]
 have e2:gm.drop (i*4+vs.length)=news++cur.drop ((i+1)*4+news.length):=by
  rw [h1,List.append_assoc,hv,show i*4+4=(cur.take ((i+1)*4)).length by rw [List.length_take,fi];omega,List.drop_left]
 rw [e1,e2]
 unfold vA
 rw [←hn,←List.append_assoc,List.getElem?_append_left]
 simp only [List.length_append,List.length_take,fi,hv,oS]
 omega
set_option maxHeartbeats 4000000 in
set_option maxRecDepth 1000000 in
theorem zf (w:World) (g n c i vb:Nat) (hi:i<n) (hc:n+1≤c) (W_:c≤9223372036854775807) (cS:vb≠g) (cur:Array Value) (te:TypeId) (fr:Nat×Nat) (hg:w.heap[g]?=some (.cells cur te fr)) (gu:∀t,t<cur.size-> ¬(fr.1≤t∧t<fr.2)) (hs:cur.size=4*c) (h1:∀(t:Nat) u,t<n*4->cur[t]?=some u->u.oneCell'=true)
  (vs:List Value) (l0:vs.length=4) (Nf:TypeId) (hv:w.heap[vb]?=some (.cells vs.toArray Nf (0,0))) (h2:∀u∈vs,u.oneCell'=true) :
  Calls Tryz.prog 53 #[.slice (some ⟨g,0,none⟩) n c,.int .i64 i,.slice (some ⟨vb,0,none⟩) 1 1] w fun e w'=>e= .returned (.slice (some ⟨g,0,none⟩) (n+1) c)∧ ∃cur',w'=w.drew.setRow g cur'∧cur'.size=cur.size∧ ∀t,t<(n+1)*4->cur'[t]?=(vA cur.toList n i vs)[t]?:=by
 have mixed:Tryz.prog.follows .mixedOrders=true:=by kernel_rfl
 obtain ⟨i0,Fh,km⟩:∃i0:TypeInfo,Tryz.prog.info? 70=some i0∧i0.size=4:=by
  have h:(Tryz.prog.info? 70).map (fun i=>i.size)=some 4:=by kernel_rfl
  cases hp:Tryz.prog.info? 70 with
  | none=>rw [hp] at h;cases h
  | some i=>rw [hp] at h;simp at h;exact ⟨i,rfl,h⟩
 have fi:cur.toList.length=4*c:=by simp [hs]
 obtain ⟨news,jo⟩:∃news,news=(cur.toList.take (n*4)).drop (i*4):=⟨_,rfl⟩
 have oS:news.length=(n-i)*4:=by rw [jo,List.length_drop,List.length_take,fi];omega
 have vH:∀t,t<(n-i)*4->news[t]?=cur[i*4+t]?:=fun t ht=>by
  rw [jo,List.getElem?_drop,List.getElem?_take,if_pos ag,Array.getElem?_toList]
 have gq:∀t u,news[t]?=some u->w.drew.cell? ((⟨g,i*4,none⟩:Addr).add t)=some u:=fun t u hu=>by
  have ht:t<(n-i)*4:=by
   have:=(List.getElem?_eq_some_iff.1 hu).1
   rwa [oS] at this
  rw [vH t ht] at hu
  rw [Addr.add_lit]
  show w.cell? _=_
  simp only [World.cell?,hg]
  exact hu
 have og:∀u∈news,u.oneCell'=true:=fun u hu=>by
  obtain ⟨t,ht⟩:=List.getElem?_of_mem hu
  have ua:t<(n-i)*4:=by
   have:=(List.getElem?_eq_some_iff.1 ht).1
   rwa [oS] at this
  rw [vH t ua] at ht
  exact h1 _ _ ag ht
 obtain ⟨gm,qN⟩:∃gm,gm=(cur.toList.take ((i+1)*4)++news++cur.toList.drop ((i+1)*4+news.length)).toArray:=⟨_,rfl⟩
 have TA:∀ty dc sc,(Builtin.copy_ #[30,30] ty #[.slice (some ⟨g,(i+1)*4,none⟩) (n-i) dc,.slice (some ⟨g,i*4,none⟩) (n+1-i) sc]).run Tryz.prog w.drew= .ok (goInt ((n-i:Nat):Int)) (w.drew.setRow g gm):=fun ty dc sc=>by
  have h:=lE (P:=Tryz.prog) w.drew 30 ty 70 i0 Tryz.underlying30 Fh g ((i+1)*4) (n-i) dc ⟨g,i*4,none⟩ (n+1-i) sc (n-i) (by simp only [Nat.min_def];split<;>omega) cur te fr hg gu news (by rw [oS,km]) gq og (by rw [oS,hs];omega)
  rw [qN];exact h
 have gG:gm.size=cur.size:=by
  rw [qN];simp only [List.size_toArray,List.length_append,List.length_take,List.length_drop,oS,fi,hs];omega
 have Cw:(w.drew.setRow g gm).heap[g]?=some (.cells gm te fr):=setRow_heap w.drew g cur gm te fr hg
 have KE:(w.drew.setRow g gm).heap[vb]?=some (.cells vs.toArray Nf (0,0)):=(setRow_other w.drew g vb gm cS).trans hv
 obtain ⟨oy,qM⟩:∃oy,oy=(gm.toList.take (i*4)++vs++gm.toList.drop (i*4+vs.length)).toArray:=⟨_,rfl⟩
 have Tz:∀ty dc,(Builtin.copy_ #[30,30] ty #[.slice (some ⟨g,i*4,none⟩) (n+1-i) dc,.slice (some ⟨vb,0,none⟩) 1 1]).run Tryz.prog (w.drew.setRow g gm)= .ok (goInt 1) ((w.drew.setRow g gm).setRow g oy):=fun ty dc=>by
  have h:=lE (P:=Tryz.prog) (w.drew.setRow g gm) 30 ty 70 i0 Tryz.underlying30 Fh g (i*4) (n+1-i) dc ⟨vb,0,none⟩ 1 1 1 (by simp only [Nat.min_def];split<;>omega) gm te fr Cw (fun t ht=>gu t ag) vs (by rw [l0,km]) (fun t u hu=>by
   rw [Addr.add_lit]
   simp only [World.cell?,KE]
   simpa using hu) h2 (by rw [l0,gG,hs];omega)
  rw [qM];exact h
 have fin:∃cur',(w.drew.setRow g gm).setRow g oy=w.drew.setRow g cur'∧cur'.size=cur.size∧ ∀t,t<(n+1)*4->cur'[t]?=(vA cur.toList n i vs)[t]?:=by
  refine ⟨oy,yo w.drew g cur gm oy te fr hg,?_,fun t ht=>?_⟩
  ·rw [qM];simp only [List.size_toArray,List.length_append,List.length_take,List.length_drop,l0,Array.length_toList,gG,hs];omega
  ·rw [qM,List.getElem?_toArray]
   exact Gm fi hi ag l0 jo (by rw [qN]) t ag
 have VX:∀lb cb,(callFunc 98 #[.slice (some ⟨vb,0,none⟩) 1 1,.slice (some ⟨g,(i+1)*4,none⟩) lb cb]).run Tryz.prog w= .ok (.value (.bool false)) w:=fun lb cb=>by
  rw [run_callFunc_extern Tryz.func98 bu bu bu (e:=Extern.SlicesOverlaps.overlaps #[30,30] #[4]) bu,
   Lib.run_overlaps_apart w 30 4 70 Tryz.underlying30 4 (fun w=>by simp [sizeOf,typeInfo,Fh,km]) ⟨vb,0,none⟩ ⟨g,(i+1)*4,none⟩ 1 1 lb cb cS Nf te 4 cur.size (by simp [World.shape?,hv,l0]) (by simp [World.shape?,hg]) ag (by simp [World.frozen?,hv]) (by simp [World.frozen?,hv])]
  rfl
 have Rz:¬((1:Int)=0):=ag
 have IW:¬((i:Int)=(n:Int)):=ag
 have Vz:¬((c:Int)<(n:Int)+1):=ag
 have Lq:IntKind.i64.wrap ((i:Int)+1)=(i:Int)+1:=by rw [IntKind.wrap_i64];omega
 have My:IntKind.i64.wrap ((n:Int)+1)=(n:Int)+1:=by rw [IntKind.wrap_i64];omega
 have b1:i≤c:=ag
 have b2:i+1≤c:=ag
 have b3:i≤n:=ag
 have b4:i≤n+1:=ag
 have b6:¬(c=i):=ag
 have b7:¬(c=i+1):=ag
 have b8:n≤c:=ag
 have Hp:(0:Int)≤(i:Int)+1:=ag
 have VK:((i:Int)+1).toNat=i+1:=ag
 have Xc:(i:Int)≤(n:Int):=ag
 have b5:(i:Int)≤(n:Int)+1:=ag
 have Xb:(i:Int)+1≤(n:Int)+1:=ag
 clear qN qM jo vH gq og gG Cw KE oS fi h1
 go_enter Tryz.func53,Tryz.ntmps53
 go_wp2_with (simp only [VX])
 go_region_law_o (refine step_copy_runI rfl _ _ 30 30 rfl _ _ (by simp [Act.eval,Act.put]) (by simp [Act.eval,Act.put]) (TA _ _ _) ?_)
 go_wp2_with (at_builtin;refine wpList_copy_runI _ rfl _ _ 30 30 rfl _ _ rfl rfl (Tz _ _) ?_)
 go_ret
 exact ⟨rfl,fin⟩
end Go.Proofs.YtjgbhhnghedgdaaGreatDoor
