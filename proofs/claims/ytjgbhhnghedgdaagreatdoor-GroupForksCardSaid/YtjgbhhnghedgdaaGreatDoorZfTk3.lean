import Derived.Test.YtjgbhhnghedgdaaGreatDoorZfTk2
set_option linter.all false
namespace Go.Proofs.YtjgbhhnghedgdaaGreatDoor
open Go.RowKit
set_option maxRecDepth 100000
set_option maxHeartbeats 4000000
def df (seed:UInt64) (leaf:Nat) (n:Nat):List UInt64:=(List.range n).map fun k=>gq seed k (leaf/2^k^^^1)
theorem vc (seed:UInt64) (leaf k:Nat):df seed leaf (k+1)=df seed leaf k++ [gq seed k (leaf/2^k^^^1)]:=by simp [df,List.range_succ]
theorem rV (seed:UInt64) (leaf k:Nat):(df seed leaf k).length=k:=by simp [df]
theorem Bb (leaf k:Nat) (hk:k≤4):((leaf:Int)).fdiv (2^min (wv (u64 (k:Int))).toNat IntKind.i64.bits)=((leaf/2^k:Nat):Int):=by
 have e:(2:Int)^min (wv (u64 (k:Int))).toNat IntKind.i64.bits=((2^k:Nat):Int):=by
  rcases (ag:k=0∨k=1∨k=2∨k=3∨k=4) with rfl|rfl|rfl|rfl|rfl<;>decide +kernel
 rw [e,Int.fdiv_eq_ediv_of_nonneg _ (Int.natCast_nonneg _)];rfl
theorem E2 (q:Nat) (hq:q<16):IntKind.i64.wrap ((BitVec.ofInt IntKind.i64.bits (q:Int)^^^BitVec.ofInt IntKind.i64.bits 1).toNat:Nat)=((q^^^1:Nat):Int):=by
 have key:∀q:Fin 16,IntKind.i64.wrap ((BitVec.ofInt IntKind.i64.bits ((q.val:Nat):Int)^^^BitVec.ofInt IntKind.i64.bits 1).toNat:Nat)=((q.val^^^1:Nat):Int):=by decide +kernel
 exact key ⟨q,hq⟩
theorem NK (q:Nat) (hq:q<16):q^^^1<16:=by
 have key:∀q:Fin 16,q.val^^^1<16:=by decide +kernel
 exact key ⟨q,hq⟩
theorem Dn (seed:UInt64) (h leaf:Nat) (m:UInt64) (hh:h≤4) (hl:leaf<2^h):bA Tryz.prog 55 [aw seed,ai h,ai leaf,aw m] (.b_ [.agg [ai leaf,.own 1 (aj (bQ seed leaf m 18)),.own 1 (aj (df seed leaf h))],ai 0]):=by
 have hb:¬ck (h:Int):=by unfold ck;omega
 have hp:2^h≤16:=Nat.pow_le_pow_right (by decide) hh
 have DO:IntKind.i64.wrap (1*2^min (wv (u64 (h:Int))).toNat IntKind.i64.bits)=((2^h:Nat):Int):=by
  rcases (ag:h=0∨h=1∨h=2∨h=3∨h=4) with rfl|rfl|rfl|rfl|rfl<;>decide +kernel
 have Lf:(0:Int)≤wv (u64 (h:Int)):=Int.natCast_nonneg _
 refine zO Tryz.func55 52<|zq<|zS<|zP 1 [yH ([(1,yC (bc ((↑h:Int)))),(6,{b:=false}),(10,{av:=some (aw (u64 (↑h:Int))),g:=false}),(11,{av:=some (ai (↑((2:Nat)^h):Int)),g:=false}),(13,{b:=false})]++yg [4,5,8,9,12])] [.aa [25,9,8,0,1,2,3] [8]] ([yI (bc ((↑h:Int)))]++yM 3 (yS ((!!decide (ck (↑h:Int)))=false))++yM 3 (yR false)++ [yI (a8 ((↑h:Int))),yR false,yI (yc DO),yI Lf,yR false,yR false])<|dm 25 ((↑leaf:Int)≥(↑((2:Nat)^h):Int))<|a6<|zP 1 [yH [(4,yC (qu (seed) ((↑leaf:Int)) (m)))]] [.aa [10,25,9,8,0,1,2,3] [10,31,8]] [yI (qu seed ((↑leaf:Int)) m),yB (lM (aj (bQ seed (↑leaf:Int) m 18))) (gK _),yL 3 3]<|zS<|zq<|zB 0<|bf.pA (bO.MT 10 2 49 1 (r:=⟨1,false,true,[ai leaf,.ref 31,.nil]⟩) bC rfl rfl bC) (zL (fun (k:Nat)=>(⟨[(10,AV.addr 10 0),(25,ao (decide ((↑leaf:Int)≥(↑((2:Nat)^h):Int)))),(9,ai 0),(8,AV.addr 8 0),(0,aw seed),(1,ai ↑h),(2,ai ↑leaf),(3,aw m),(11,ai k)],[(8,⟨1,false,true,[ai 0,AV.nil,AV.nil]⟩),(31,⟨1,true,false,aj (bQ seed (↑leaf:Int) m 18)⟩),(10,⟨1,false,true,[ai leaf,AV.ref 31,AV.ref 49]⟩),(49,⟨1,true,false,aj (df seed leaf k)⟩)]⟩:AS)) (fun k=>(k≤h)) (fun k=>(h-k)) (0) ?_ (zW [.aa [10,25,9,8,0,1,2,3,11] [8,31,10,49]]) ?_)
 ·omega
 intro k hk
 refine zS<|bf.pe 1 [{}] [.aa [35,10,25,9,8,0,1,2,3,11] [8,31,10,49]] bC (s':=AS.mk [(35,ao (decide ((↑k:Int)<(↑h:Int)))),(10,AV.addr 10 0),(25,ao (decide ((↑leaf:Int)≥(↑((2:Nat)^h):Int)))),(9,ai 0),(8,AV.addr 8 0),(0,aw seed),(1,ai ↑h),(2,ai ↑leaf),(3,aw m),(11,ai ↑k)] [(8,Row.mk 1 false true [ai 0,AV.nil,AV.nil]),(31,Row.mk 1 true false (aj (bQ seed (↑leaf:Int) m 18))),(10,Row.mk 1 false true [ai ↑leaf,AV.ref 31,AV.ref 49]),(49,Row.mk 1 true false (aj (df seed leaf k)))]) (C:=[]) bC trivial (zD 35 ((↑k:Int)<(↑h:Int)) (fun g=>?_) (fun g=>?_))
 ·have B1:k≤4:=ag
  have hs:=Bb leaf k B1
  have hle:leaf/2^k≤leaf:=Nat.div_le_self ..
  have hq:leaf/2^k<16:=ag
  have hx:=E2 _ hq
  have cZ:=NK _ hq
  have ep:=vc seed leaf k
  have OB:(0:Int)≤wv (u64 (k:Int)):=Int.natCast_nonneg _
  have hn:=sZ seed k (leaf/2^k^^^1) B1 (Nat.lt_of_lt_of_le cZ (Nat.le_trans (by decide:16≤2^36) (Nat.pow_le_pow_right (by decide) ag)))
  generalize leaf/2^k^^^1=x at *
  generalize gq seed k x=r at *
  generalize leaf/2^k=q at *
  refine a6<|zS<|zB 1<|zX ({hs:=[(6,yV (aw (u64 (↑k:Int)))),(7,yV (ai ↑q)),(8,yV (ai ↑x)),(9,yC hn),(10,yV (AV.arr (aj [r]))),(11,yV (AV.arr (aj (df seed leaf k++ [r]))))],T:=11}) [yI (a8 ((↑k:Int))),yI (yc hs),yI OB,yI (yc hx),yI hn,yR [aw r],yB (aj (df seed leaf k)++aj [r]=aj (df seed leaf k++ [r])) (jr _ _),yB (((aj (df seed leaf k)).length+1)*8≤140737488355328) (by simp only [aE,rV];omega),yL 3 3]<|aK<|al<|zX (yH [(1,yV (ai ((↑k:Int)+1)))]) [yN ((↑k:Int)+1)] (aF (k+1) ag ag (eX [.aa [10,25,9,8,0,1,2,3,11] [8,31,10,49]] [] [49] [yB (aj (df seed leaf k++ [r])=aj (df seed leaf (k+1))) (congrArg aj ep.symm)]))
 ·have e:k=h:=ag
  subst e
  refine zE 0<|a7<|aP<|bp<|al<|zP 1 [{}] [.aa [9,35,10,25,8,0,1,2,3,11] [8,31,10,49]] [yL 3 3]<|zR (bL)
def iV (h leaf:Int):Prop:=ck h∨leaf<0∨((2^h.toNat:Nat):Int)≤leaf
instance (h leaf:Int):Decidable (iV h leaf):=by unfold iV;infer_instance
def Bc (h leaf:Int):Int:=if iV h leaf then 9 else 0
def qo (h leaf:Int):Int:=if iV h leaf then 0 else leaf
def pE (seed:UInt64) (h leaf:Int) (m:UInt64):List UInt64:=if iV h leaf then [] else bQ seed leaf m 18
def pD (seed:UInt64) (h leaf:Int):List UInt64:=if iV h leaf then [] else df seed leaf.toNat h.toNat
theorem lF (seed:UInt64) (h leaf:Int) (m:UInt64):bA Tryz.prog 55 [aw seed,ai h,ai leaf,aw m] (.b_ [.agg [ai (qo h leaf),.own 1 (aj (pE seed h leaf m)),.own 1 (aj (pD seed h leaf))],ai (Bc h leaf)]):=by
 by_cases fq:iV h leaf
 ·have e1:Bc h leaf=9:=if_pos fq
  have e2:qo h leaf=0:=if_pos fq
  have e3:pE seed h leaf m= []:=if_pos fq
  have e4:pD seed h leaf= []:=if_pos fq
  rw [e1,e2,e3,e4]
  unfold iV at fq
  by_cases hb:ck h
  ·refine zO Tryz.func55 52<|zq<|zS<|zP 1 [yH [(1,yC (bc (h)))]] [.aa [25,9,8,0,1,2,3] [8]] ([yI (bc h)]++yM 3 (yS ((!!decide (ck h))=true))++yM 6 (yR true))<|zT 25<|zP 1 [{}] [.aa [9,25,8,0,1,2,3] [8]] [yL 3 3]<|dk (bL)
  have sf:0≤h∧h≤4:=by unfold ck at hb;omega
  obtain ⟨k,rfl⟩:=Int.eq_ofNat_of_zero_le sf.1
  rw [Int.toNat_natCast] at fq
  by_cases cZ:leaf<0
  ·refine zO Tryz.func55 52<|zq<|zS<|zP 1 [yH ([(1,yC (bc ((↑k:Int)))),(6,{b:=false})]++yg [4,5])] [.aa [25,9,8,0,1,2,3] [8]] ([yI (bc ((↑k:Int)))]++yM 3 (yS ((!!decide (ck (↑k:Int)))=false))++yM 6 (yT (leaf<0)))<|zT 25<|zP 1 [{}] [.aa [9,25,8,0,1,2,3] [8]] [yL 3 3]<|dk (bL)
  have vM:((2^k:Nat):Int)≤leaf:=by rcases fq with h|h|h<;>first|exact absurd h hb|exact absurd h cZ|exact h
  have hp:2^k≤16:=Nat.pow_le_pow_right (by decide) (by omega:k≤4)
  have DO:IntKind.i64.wrap (1*2^min (wv (u64 (k:Int))).toNat IntKind.i64.bits)=((2^k:Nat):Int):=by
   rcases (ag:k=0∨k=1∨k=2∨k=3∨k=4) with rfl|rfl|rfl|rfl|rfl<;>decide +kernel
  have Lf:(0:Int)≤wv (u64 (k:Int)):=Int.natCast_nonneg _
  generalize 2^k=p2 at *
  refine zO Tryz.func55 52<|zq<|zS<|zP 1 [yH ([(1,yC (bc ((↑k:Int)))),(6,{b:=false}),(10,{av:=some (aw (u64 (↑k:Int))),g:=false}),(11,{av:=some (ai ↑p2),g:=false}),(13,{b:=false})]++yg [4,5,8,9,12])] [.aa [25,9,8,0,1,2,3] [8]] ([yI (bc ((↑k:Int)))]++yM 3 (yS ((!!decide (ck (↑k:Int)))=false))++yM 3 (yF (leaf<0))++ [yI (a8 ((↑k:Int))),yF (leaf<0),yI (yc DO),yI Lf]++yM 2 (yF (leaf<0)))<|gX 25 (leaf≥(↑p2:Int))<|zP 1 [{}] [.aa [9,25,8,0,1,2,3] [8]] [yL 3 3]<|dk (bL)
 ·have e1:Bc h leaf=0:=if_neg fq
  have e2:qo h leaf=leaf:=if_neg fq
  have e3:pE seed h leaf m=bQ seed leaf m 18:=if_neg fq
  have e4:pD seed h leaf=df seed leaf.toNat h.toNat:=if_neg fq
  rw [e1,e2,e3,e4]
  unfold iV ck at fq
  have sf:0≤h∧h≤4∧0≤leaf:=ag
  obtain ⟨k,rfl⟩:=Int.eq_ofNat_of_zero_le sf.1
  obtain ⟨i,rfl⟩:=Int.eq_ofNat_of_zero_le sf.2.2
  rw [Int.toNat_natCast,Int.toNat_natCast]
  rw [Int.toNat_natCast] at fq
  exact Dn seed k i m ag ag
theorem Ir (seed:UInt64) (h leaf:Int) (m:UInt64) (fq:iV h leaf):bA Tryz.prog 51 [aw seed,ai h,ai leaf,aw m] (.b_ [.agg [ai 0,.sl 1 (aj []),.own 1 (aj [])],ai 9]):=by
 unfold iV at fq
 by_cases hb:ck h
 ·refine zO Tryz.func51 48<|zq<|zS<|zP 1 [yH [(1,yC (dt (h)))]] [.aa [19,9,8,6,5,0,1,2,3] [8,6,5]] ([yI (dt h)]++yM 4 (yT (ck h)))<|zT 19<|zP 1 [{}] [.aa [9,19,8,6,5,0,1,2,3] [8,6,5]] [yL 3 3]<|dk (bL)
 have sf:0≤h∧h≤4:=by unfold ck at hb;omega
 obtain ⟨k,rfl⟩:=Int.eq_ofNat_of_zero_le sf.1
 rw [Int.toNat_natCast] at fq
 have ho:leaf<0∨((2^k:Nat):Int)≤leaf:=fq.resolve_left hb
 have hk:k≤4:=ag
 refine zO Tryz.func51 48<|zq<|zS<|zP 1 [yH ([(1,yC (dt ((↑k:Int)))),(5,{av:=some (ao (decide (leaf<0∨(↑((2:Nat)^k):Int)≤leaf))),g:=false}),(6,{b:=false})]++yg [3,4])] [.aa [19,9,8,6,5,0,1,2,3] [8,6,5]] ([yI (dt ((↑k:Int)))]++yM 3 (yF (ck (↑k:Int)))++ [yI (iP leaf k hk),yF (ck (↑k:Int))])<|gX 19 (leaf<0∨(↑((2:Nat)^k):Int)≤leaf)<|zP 1 [{}] [.aa [9,19,8,6,5,0,1,2,3] [8,6,5]] [yL 3 3]<|dk (bL)
def rN (seed:UInt64) (h leaf:Nat) (x:AV) (i:Nat):List (Nat×Row) :=
 [(1000000000005,⟨1,false,true,[ai (h:Int)]⟩),(1000000000006,⟨1,false,true,[ai (leaf:Int)]⟩),(1000000000008,⟨1,false,true,[ai 0,.nil,.nil]⟩),(1000000000010,⟨1,false,true,[ai (leaf:Int),x,.ref 49]⟩),(49,⟨1,true,false,aj (df seed leaf (min i h))⟩)]
def Ba (seed:UInt64) (h:Nat) (m:UInt64):List (Nat×AV) :=
 [(29,.lu 142 [.ptr [ai (h:Int)] 0,.ptr [aw seed] 0]),(10,.addr 1000000000010 0),(9,ai 0),(8,.addr 1000000000008 0),(6,.addr 1000000000006 0),(5,.addr 1000000000005 0),(0,aw seed),(3,aw m)]
theorem A_ (seed:UInt64) (h leaf:Nat) (m:UInt64) (L:List AV) (i:Nat) (v:Value):E1 [(v,.sl 1 L)] ⟨Ba seed h m,rN seed h leaf (.val v) i⟩ ⟨Ba seed h m,rN seed h leaf (.sl 1 L) i⟩:=by
 intro Z w0 n a w φ hs hr
 have h1:=hs.close_ 1000000000010 1 (r:=⟨1,false,true,[ai (leaf:Int),.val v,.ref 49]⟩) (x:=.sl 1 L) (v:=v) rfl rfl rfl (hr (v,.sl 1 L) (by simp))
 refine h1.congr fun i'=>?_
 show look (rN seed h leaf (.sl 1 L) i) i'=look ((1000000000010,⟨1,false,true,[ai (leaf:Int),.sl 1 L,.ref 49]⟩):: [(1000000000005,⟨1,false,true,[ai (h:Int)]⟩),(1000000000006,⟨1,false,true,[ai (leaf:Int)]⟩),(1000000000008,⟨1,false,true,[ai 0,.nil,.nil]⟩),(49,⟨1,true,false,aj (df seed leaf (min i h))⟩)]) i'
 unfold rN
 simp only [aD]
 by_cases e:1000000000010=i'
 ·subst e;rfl
 ·simp only [e,if_false]
theorem Iu (seed:UInt64) (h leaf:Nat) (m:UInt64) (L:List AV) (Z:bo) (w0:World) (n:Nat) (a:Act) (w:World) (φ:Nat->Option Nat) (hs:aJ Z w0 n [] (AS.mk (Ba seed h m) [(1000000000005,⟨1,false,true,[ai (h:Int)]⟩),(1000000000006,⟨1,false,true,[ai (leaf:Int)]⟩),(1000000000008,⟨1,false,true,[ai 0,.nil,.nil]⟩),(1000000000010,⟨1,false,true,[ai (leaf:Int),.sl 1 L,.nil]⟩)]) a w φ) :
  ∃(ko:Nat->Option Nat) (vs:List Value),vs.length= [AV.sl 1 L].length∧aJ Z w0 n [] ⟨Ba seed h m,rN seed h leaf (.val (vs.headD default)) 0⟩ a w ko∧ ∀p∈vs.zip [AV.sl 1 L],cz (aO Z w ko []) w p.1 p.2:=by
 obtain ⟨ko,h2⟩:=(bO.MT 1000000000010 2 49 1 (r:=⟨1,false,true,[ai (leaf:Int),.sl 1 L,.nil]⟩) rfl rfl rfl rfl) Z w0 n a w ⟨φ,hs⟩
 obtain ⟨v,h3,hr⟩:=h2.open_ 1000000000010 1 (r:=⟨1,false,true,[ai (leaf:Int),.sl 1 L,.ref 49]⟩) (x:=.sl 1 L) rfl rfl rfl rfl
 refine ⟨ko,[v],rfl,h3.congr fun i'=>?_,fun p hp=>?_⟩
 ·show look (rN seed h leaf (.val v) 0) i'=look [(1000000000010,⟨1,false,true,[ai (leaf:Int),.val v,.ref 49]⟩),(49,⟨1,true,false,[]⟩),(1000000000005,⟨1,false,true,[ai (h:Int)]⟩),(1000000000006,⟨1,false,true,[ai (leaf:Int)]⟩),(1000000000008,⟨1,false,true,[ai 0,.nil,.nil]⟩)] i'
  have e0:aj (df seed leaf (min 0 h))= []:=by simp [df,aj]
  unfold rN
  rw [e0]
  simp only [aD]
  by_cases e:1000000000010=i'
  ·subst e;rfl
  ·simp only [e,if_false]
   by_cases e:49=i'
   ·subst e;rfl
   ·simp only [e,if_false]
 ·obtain rfl:p=(v,.sl 1 L):=by simpa using hp
  exact hr
theorem xG (leaf k:Nat) (hk:k≤4):((leaf:Int)).fdiv (2^min ((k:Int)).toNat IntKind.i64.bits)=((leaf/2^k:Nat):Int):=by
 have e:(2:Int)^min ((k:Int)).toNat IntKind.i64.bits=((2^k:Nat):Int):=by
  rcases (ag:k=0∨k=1∨k=2∨k=3∨k=4) with rfl|rfl|rfl|rfl|rfl<;>decide +kernel
 rw [e,Int.fdiv_eq_ediv_of_nonneg _ (Int.natCast_nonneg _)];rfl
theorem H6 (q m:Nat) (hm:m≤8) (hq:q<2*m):q^^^1<2*m:=by
 have key:∀m:Fin 9,∀q:Fin 16,q.val<2*m.val->q.val^^^1<2*m.val:=by decide +kernel
 exact key ⟨m,ag⟩ ⟨q,ag⟩ hq
theorem LD (seed:UInt64) (h leaf:Nat) (m:UInt64) (hh:h≤4) (hl:leaf<2^h):bA Tryz.prog 51 [aw seed,ai h,ai leaf,aw m] (.b_ [.agg [ai leaf,.sl 1 (aj (bQ seed leaf m 18)),.own 1 (aj (df seed leaf h))],ai 0]):=by
 have hb:¬ck (h:Int):=by unfold ck;omega
 have hp:2^h≤16:=Nat.pow_le_pow_right (by decide) hh
 have ho:¬((leaf:Int)<0∨((2^h:Nat):Int)≤leaf):=ag
 refine zO Tryz.func51 48<|zq<|zS<|zP 1 [yH ([(1,yC (dt ((↑h:Int)))),(5,{av:=some (ao (decide ((↑leaf:Int)<0∨(↑((2:Nat)^h):Int)≤(↑leaf:Int)))),g:=false}),(6,{b:=false})]++yg [3,4])] [.aa [19,9,8,6,5,0,1,2,3] [8,6,5]] ([yI (dt ((↑h:Int)))]++yM 3 (yF (ck (↑h:Int)))++ [yI (iP ((↑leaf:Int)) h hh),yF (ck (↑h:Int))])<|dm 19 ((↑leaf:Int)<0∨(↑((2:Nat)^h):Int)≤(↑leaf:Int))<|a6<|zS<|yw 7 [6] [(4,yC (rM (seed) ((↑leaf:Int)) (m)))] [yI (rM seed ((↑leaf:Int)) m),yB (lM (aj (bQ seed (↑leaf:Int) m 18))) (gK _),yR (ai ↑leaf),yR (aw seed),yR (ai ↑leaf),yR (aw m),yR (AV.sl 1 (aj (bQ seed (↑leaf:Int) m 18))),yI (rM seed ((↑leaf:Int)) m),yB (lM (aj (bQ seed (↑leaf:Int) m 18))) (gK _),yR (AV.agg [ai ↑leaf,AV.sl 1 (aj (bQ seed (↑leaf:Int) m 18)),AV.nil]),yL 3 3]<|al<|bf.tD [.aa [10,19,9,8,6,5,0,1,2,3] [10,8,6,5]] bC<|zS<|zP 1 [yH [(2,yD (vv (seed) ((↑h:Int))))]] [.aa [29,10,19,9,8,6,5,0,1,2,3] [10,8,6,5]] [yI (vv seed ((↑h:Int)))]<|zB 0 ?_
 refine bf.Oj bC _ _ (BL seed h hh) bC bC bC [(5,1000000000005),(6,1000000000006),(8,1000000000008),(10,1000000000010)] bC [.sl 1 (aj (bQ seed leaf m 18))]
  (Ba seed h m) (fun vs i=>rN seed h leaf (.val (vs.headD default)) i) ⟨Ba seed h m,rN seed h leaf (.sl 1 (aj (bQ seed leaf m 18))) (h+1)⟩
  (fun Z w0 a w φ hs=>?_) (fun vs _=>by kernel_rfl) (fun _=>by kernel_rfl) bC (fun vs i _ _=>⟨eK (iU rfl) (eK (iU rfl) (eK (iU rfl) (eK (iU rfl) (eK (rb _) wG)))),by kernel_rfl⟩) (fun vs i hv hi=>?_) (fun vs hv=>?_) ?_
 ·obtain ⟨iW,h1⟩:=(zW [.aa [29,10,9,8,6,5,0,3] [1000000000005,1000000000006,1000000000008,1000000000010]]) Z w0 48 a w ⟨φ,hs⟩
  exact Iu seed h leaf m _ Z w0 48 a w iW h1
 ·obtain ⟨v,rfl⟩:=List.length_eq_one_iff.1 hv
  refine bf.SA (AS.mk ([(31,.sl 1 (aj (k8 seed h i))),(30,ai (i:Int))]++Ba seed h m) [(1000000000005,⟨1,false,true,[ai (h:Int)]⟩),(1000000000006,⟨1,false,true,[ai (leaf:Int)]⟩),(1000000000008,⟨1,false,true,[ai 0,.nil,.nil]⟩),(1000000000010,⟨1,false,true,[ai (leaf:Int),.val v,.ref 49]⟩),(49,⟨1,true,false,aj (df seed leaf (min i h))⟩)]) bC ?_
  rw [show min i h=i by omega]
  refine bf.SA (AS.mk [(31,.sl 1 (aj (k8 seed h i))),(30,ai (i:Int)),(29,.lu 142 [.ptr [ai (h:Int)] 0,.ptr [aw seed] 0]),(10,.addr 1000000000010 0),(9,ai 0),(8,.addr 1000000000008 0),(6,.addr 1000000000006 0),(5,.addr 1000000000005 0),(0,aw seed),(3,aw m)] [(1000000000005,⟨1,false,true,[ai (h:Int)]⟩),(1000000000006,⟨1,false,true,[ai (leaf:Int)]⟩),(1000000000008,⟨1,false,true,[ai 0,.nil,.nil]⟩),(1000000000010,⟨1,false,true,[ai (leaf:Int),.val v,.ref 49]⟩),(49,⟨1,true,false,aj (df seed leaf i)⟩)]) bC<|zq<|zX {} []<|al<|zB 1<|zS<|zP 1 [{}] [.aa [34,12,11,31,30,29,10,9,8,6,5,0,3] [1000000000005,1000000000006,1000000000008,1000000000010,49]] [] (bf.KT (x:=.tmp 34) (u:=(↑i:Int)) (v:=(↑h:Int)) bC bC (fun g=>?_) (fun g=>?_))
  ·have e:i=h:=ag
   subst e
   refine zE 0<|a7<|Nl bC ?_
   refine ⟨rN seed i leaf (.val v) (i+1),⟨Ba seed i m,rN seed i leaf (.sl 1 (aj (bQ seed leaf m 18))) (i+1)⟩,eK (iU rfl) (eK (iU rfl) (eK (iU rfl) (eK (iU rfl) (eK (rb _) wG)))),by kernel_rfl,
    bO.of [.aa [] [1000000000005,1000000000006,1000000000008,1000000000010,49]] (s1:=AS.mk [] [(1000000000005,⟨1,false,true,[ai (i:Int)]⟩),(1000000000006,⟨1,false,true,[ai (leaf:Int)]⟩),(1000000000008,⟨1,false,true,[ai 0,.nil,.nil]⟩),(1000000000010,⟨1,false,true,[ai (leaf:Int),.val v,.ref 49]⟩),(49,⟨1,true,false,aj (df seed leaf i)⟩)]) bC (by unfold rN;rw [show min (i+1) i=i by omega]),A_ seed i leaf m _ (i+1) v,bp (al ?_)⟩
   refine bf.SA (AS.mk [(29,.lu 142 [.ptr [ai (i:Int)] 0,.ptr [aw seed] 0]),(10,.addr 10 0),(9,ai 0),(8,.addr 8 0),(6,.addr 6 0),(5,.addr 5 0),(0,aw seed),(3,aw m)] [(5,⟨1,false,true,[ai (i:Int)]⟩),(6,⟨1,false,true,[ai (leaf:Int)]⟩),(8,⟨1,false,true,[ai 0,.nil,.nil]⟩),(10,⟨1,false,true,[ai (leaf:Int),.sl 1 (aj (bQ seed leaf m 18)),.ref 49]⟩),(49,⟨1,true,false,aj (df seed leaf (min (i+1) i))⟩)]) bC ?_
   rw [show min (i+1) i=i by omega]
   refine bf.pe 1 [{}] [.aa [9,29,10,8,6,5,0,3] [8,5,6,10,49]] bC (s':=AS.mk [(9,ai 0),(29,AV.lu 142 [AV.ptr [ai ↑i] 0,AV.ptr [aw seed] 0]),(10,AV.addr 10 0),(8,AV.addr 8 0),(6,AV.addr 6 0),(5,AV.addr 5 0),(0,aw seed),(3,aw m)] [(8,Row.mk 1 false true [ai ↑leaf,AV.sl 1 (aj (bQ seed (↑leaf:Int) m 18)),AV.ref 49]),(5,Row.mk 1 false true [ai ↑i]),(6,Row.mk 1 false true [ai ↑leaf]),(10,Row.mk 1 false true [ai ↑leaf,AV.sl 1 (aj (bQ seed (↑leaf:Int) m 18)),AV.ref 49]),(49,Row.mk 1 true false (aj (df seed leaf i)))]) (C:=[3≤3]) bC ⟨ag,trivial⟩<|zR (bL)
  ·have B1:i≤4:=ag
   have hs:=xG leaf i B1
   have hle:leaf/2^i≤leaf:=Nat.div_le_self ..
   have hq:leaf/2^i<16:=ag
   have hx:=E2 _ hq
   have em:2^(h-i)=2*2^(h-(i+1)):=by rw [show h-i=h-(i+1)+1 by omega,Nat.pow_succ,Nat.mul_comm]
   have Wo:2^(h-(i+1))≤8:=Nat.le_trans (Nat.pow_le_pow_right (by decide) (by omega:h-(i+1)≤3)) (by decide)
   have hdiv:leaf/2^i<2^(h-i):=by
    rw [Nat.div_lt_iff_lt_mul (Nat.two_pow_pos _),←Nat.pow_add,show h-i+i=h by omega];exact hl
   have HU:leaf/2^i^^^1<2^(h-i):=by rw [em];exact H6 _ _ Wo ag
   have ic:=qL seed h i _ HU
   have tK:=qK seed h i
   have ep:=vc seed leaf i
   have pv:=rV seed leaf i
   have DR:min (i+1) h=i+1:=ag
   generalize leaf/2^i^^^1=x at *
   generalize leaf/2^i=q at *
   generalize k8 seed h i=L at *
   generalize 2^(h-i)=c at *
   refine a6<|zX ({hs:=[(5,yV (ai ↑q)),(6,yV (ai ↑x)),(7,{k:=x}),(8,yV (aw (L.getD x 0))),(9,yV (AV.arr (aj [L.getD x 0]))),(10,yV (AV.arr (aj (df seed leaf i++ [L.getD x 0]))))],T:=10}) [yI (yc hs),yO ((0:Int)≤(↑i:Int)),yI (yc hx),yR (↑x:Int),yB (x<(aj L).length) (by simp only [aE];omega),yB ((aj L)[x]?=some (aw (L.getD x 0))) (eM ag),yR [aw (L.getD x 0)],yB (aj (df seed leaf i)++aj [L.getD x 0]=aj (df seed leaf i++ [L.getD x 0])) (jr _ _),yB (((aj (df seed leaf i)).length+1)*8≤140737488355328) (by simp only [aE];omega),yL 3 3]<|aK ?_
   exact bO.of [.wU 45 49,.aa [] [1000000000005,1000000000006,1000000000008,1000000000010,49]] (s1:=AS.mk [] [(1000000000005,⟨1,false,true,[ai (h:Int)]⟩),(1000000000006,⟨1,false,true,[ai (leaf:Int)]⟩),(1000000000008,⟨1,false,true,[ai 0,.nil,.nil]⟩),(1000000000010,⟨1,false,true,[ai (leaf:Int),.val v,.ref 49]⟩),(49,⟨1,true,false,aj (df seed leaf i++ [L.getD x 0])⟩)]) bC (by unfold rN;rw [DR,ep,ic];rfl)
 ·obtain ⟨v,rfl⟩:=List.length_eq_one_iff.1 hv
  exact A_ seed h leaf m _ (h+1) v
 ·refine aK (al ?_)
  refine bf.SA (AS.mk [(29,.lu 142 [.ptr [ai (h:Int)] 0,.ptr [aw seed] 0]),(10,.addr 10 0),(9,ai 0),(8,.addr 8 0),(6,.addr 6 0),(5,.addr 5 0),(0,aw seed),(3,aw m)] [(5,⟨1,false,true,[ai (h:Int)]⟩),(6,⟨1,false,true,[ai (leaf:Int)]⟩),(8,⟨1,false,true,[ai 0,.nil,.nil]⟩),(10,⟨1,false,true,[ai (leaf:Int),.sl 1 (aj (bQ seed leaf m 18)),.ref 49]⟩),(49,⟨1,true,false,aj (df seed leaf (min (h+1) h))⟩)]) bC ?_
  rw [show min (h+1) h=h by omega]
  refine zP 1 [{}] [.aa [9,29,10,8,6,5,0,3] [8,5,6,10,49]] [yL 3 3]<|zR (bL)
theorem A9 (seed:UInt64) (h leaf:Int) (m:UInt64):bA Tryz.prog 51 [aw seed,ai h,ai leaf,aw m] (.b_ [.agg [ai (qo h leaf),.sl 1 (aj (pE seed h leaf m)),.own 1 (aj (pD seed h leaf))],ai (Bc h leaf)]):=by
 by_cases fq:iV h leaf
 ·have e1:Bc h leaf=9:=if_pos fq
  have e2:qo h leaf=0:=if_pos fq
  have e3:pE seed h leaf m= []:=if_pos fq
  have e4:pD seed h leaf= []:=if_pos fq
  rw [e1,e2,e3,e4]
  exact Ir seed h leaf m fq
 ·have e1:Bc h leaf=0:=if_neg fq
  have e2:qo h leaf=leaf:=if_neg fq
  have e3:pE seed h leaf m=bQ seed leaf m 18:=if_neg fq
  have e4:pD seed h leaf=df seed leaf.toNat h.toNat:=if_neg fq
  rw [e1,e2,e3,e4]
  unfold iV ck at fq
  have sf:0≤h∧h≤4∧0≤leaf:=ag
  obtain ⟨k,rfl⟩:=Int.eq_ofNat_of_zero_le sf.1
  obtain ⟨i,rfl⟩:=Int.eq_ofNat_of_zero_le sf.2.2
  rw [Int.toNat_natCast,Int.toNat_natCast]
  rw [Int.toNat_natCast] at fq
  exact LD seed k i m ag ag
def dA (leaf:Nat) (P:List UInt64) (x:UInt64):Nat->UInt64
 | 0=>x
 | k+1=>if leaf/2^k%2=0 then ia ((k+1:Nat):Int) (dA leaf P x k) (P.getD k 0) else ia ((k+1:Nat):Int) (P.getD k 0) (dA leaf P x k)
def kM (h:Int) (r m:UInt64) (leaf:Int) (C P:List UInt64):Int :=
 if iV h leaf then 9 else if C.length≠18∨(P.length:Int)≠h then 4 else if dA leaf.toNat P (combine leaf (cN leaf m C 18)) h.toNat=r then 0 else 15
theorem Gi (q:Nat) (hq:q<16):IntKind.i64.wrap ((BitVec.ofInt IntKind.i64.bits (q:Int)&&&BitVec.ofInt IntKind.i64.bits 1).toNat:Nat)=((q%2:Nat):Int):=by
 have key:∀q:Fin 16,IntKind.i64.wrap ((BitVec.ofInt IntKind.i64.bits ((q.val:Nat):Int)&&&BitVec.ofInt IntKind.i64.bits 1).toNat:Nat)=((q.val%2:Nat):Int):=by decide +kernel
 exact key ⟨q,hq⟩
theorem C6 (h:Int) (r m:UInt64) (leaf:Int) (C P:List UInt64):bA Tryz.prog 104 [.agg [ai h,aw r],aw m,.agg [ai leaf,.sl 1 (aj C),.sl 1 (aj P)]] (ai (kM h r m leaf C P)):=by
 by_cases fq:iV h leaf
 ·have e1:kM h r m leaf C P=9:=if_pos fq
  rw [e1]
  unfold iV at fq
  by_cases hb:ck h
  ·refine zO Tryz.func104 74<|zq<|zS<|zP 1 [yH [(2,yC (dt (h)))]] [.aa [20,6,5,3,0,1,2] [5,3]] ([yI (dt h)]++yM 6 (yT (ck h)))<|zT 20<|zq<|dk (bL)
  have sf:0≤h∧h≤4:=by unfold ck at hb;omega
  obtain ⟨k,rfl⟩:=Int.eq_ofNat_of_zero_le sf.1
  rw [Int.toNat_natCast] at fq
  have ho:leaf<0∨((2^k:Nat):Int)≤leaf:=fq.resolve_left hb
  have hk:k≤4:=ag
  refine zO Tryz.func104 74<|zq<|zS<|zP 1 [yH ([(2,yC (dt ((↑k:Int)))),(8,{av:=some (ao (decide (leaf<0∨(↑((2:Nat)^k):Int)≤leaf))),g:=false}),(9,{b:=false})]++yg [4,5,6,7])] [.aa [20,6,5,3,0,1,2] [5,3]] ([yI (dt ((↑k:Int)))]++yM 5 (yF (ck (↑k:Int)))++ [yI (iP leaf k hk),yF (ck (↑k:Int))])<|gX 20 (leaf<0∨(↑((2:Nat)^k):Int)≤leaf)<|zq<|dk (bL)
 have hv:kM h r m leaf C P=if C.length≠18∨(P.length:Int)≠h then 4 else if dA leaf.toNat P (combine leaf (cN leaf m C 18)) h.toNat=r then 0 else 15:=if_neg fq
 unfold iV ck at fq
 have sf:0≤h∧h≤4∧0≤leaf:=ag
 obtain ⟨k,rfl⟩:=Int.eq_ofNat_of_zero_le sf.1
 obtain ⟨i,rfl⟩:=Int.eq_ofNat_of_zero_le sf.2.2
 rw [Int.toNat_natCast] at fq
 rw [Int.toNat_natCast,Int.toNat_natCast] at hv
 have hk:k≤4:=ag
 have hb:¬ck (k:Int):=by unfold ck;omega
 have ho:¬((i:Int)<0∨((2^k:Nat):Int)≤i):=ag
 have hp:2^k≤16:=Nat.pow_le_pow_right (by decide) hk
 rw [hv]
 by_cases hC:C.length=18
 case neg =>
  rw [if_pos (.inl hC)]
  refine zO Tryz.func104 74<|zq<|zS<|zP 1 [yH ([(2,yC (dt ((↑k:Int)))),(8,{av:=some (ao (decide ((↑i:Int)<0∨(↑((2:Nat)^k):Int)≤(↑i:Int)))),g:=false}),(9,{b:=false})]++yg [4,5,6,7])] [.aa [20,6,5,3,0,1,2] [5,3]] ([yI (dt ((↑k:Int)))]++yM 5 (yF (ck (↑k:Int)))++ [yI (iP ((↑i:Int)) k hk),yF (ck (↑k:Int))])<|dm 20 ((↑i:Int)<0∨(↑((2:Nat)^k):Int)≤(↑i:Int))<|a6<|zS<|zP 1 [yH [(2,{k:=C.length})]] [.aa [32,20,6,5,3,0,1,2] [5,3]] ([yI (aE C)]++yM 7 (yB (((↑C.length:Int) != (18:Int))=true) (by simp;omega)))<|zT 32<|zq<|dk (bL)
 by_cases hP:P.length=k
 case neg =>
  rw [if_pos (.inr ag)]
  refine zO Tryz.func104 74<|zq<|zS<|zP 1 [yH ([(2,yC (dt ((↑k:Int)))),(8,{av:=some (ao (decide ((↑i:Int)<0∨(↑((2:Nat)^k):Int)≤(↑i:Int)))),g:=false}),(9,{b:=false})]++yg [4,5,6,7])] [.aa [20,6,5,3,0,1,2] [5,3]] ([yI (dt ((↑k:Int)))]++yM 5 (yF (ck (↑k:Int)))++ [yI (iP ((↑i:Int)) k hk),yF (ck (↑k:Int))])<|dm 20 ((↑i:Int)<0∨(↑((2:Nat)^k):Int)≤(↑i:Int))<|a6<|zS<|zP 1 [yH ([(2,{k:=C.length}),(7,{k:=P.length,g:=false}),(11,{b:=false})]++yg [5,6,8,9,10])] [.aa [32,20,6,5,3,0,1,2] [5,3]] ([yI (aE C)]++yM 3 (yS (((↑C.length:Int) != (18:Int))=false))++ [yI (aE P)]++yM 4 (yS (((↑C.length:Int) != (18:Int))=false)))<|du 32 ((↑P.length:Int) != (↑k:Int)) (by simp;omega)<|zq<|dk (bL)
 rw [if_neg ag]
 have hr:qw i m C=combine i (cN i m C 18):=if_pos hC
 have he:mN C=0:=if_pos hC
 refine zO Tryz.func104 74<|zq<|zS<|zP 1 [yH ([(2,yC (dt ((↑k:Int)))),(8,{av:=some (ao (decide ((↑i:Int)<0∨(↑((2:Nat)^k):Int)≤(↑i:Int)))),g:=false}),(9,{b:=false})]++yg [4,5,6,7])] [.aa [20,6,5,3,0,1,2] [5,3]] ([yI (dt ((↑k:Int)))]++yM 5 (yF (ck (↑k:Int)))++ [yI (iP ((↑i:Int)) k hk),yF (ck (↑k:Int))])<|dm 20 ((↑i:Int)<0∨(↑((2:Nat)^k):Int)≤(↑i:Int))<|a6<|zS<|zP 1 [yH ([(2,{k:=C.length}),(7,{k:=P.length,g:=false}),(11,{b:=false})]++yg [5,6,8,9,10])] [.aa [32,20,6,5,3,0,1,2] [5,3]] ([yI (aE C)]++yM 3 (yS (((↑C.length:Int) != (18:Int))=false))++ [yI (aE P)]++yM 4 (yS (((↑C.length:Int) != (18:Int))=false)))<|bj 32 ((↑P.length:Int) != (↑k:Int)) (by simp_all)<|a6<|zP 1 [yH [(5,yC (s7 ((↑i:Int)) (m) (C)))]] [.aa [8,7,32,20,6,5,3,0,1,2] [5,3]] [yI (s7 ((↑i:Int)) m C)]<|zS<|zq<|bj 43 (mN C != (0:Int)) (by simp_all)<|a6<|zS<|zP 1 [yH [(2,{k:=P.length})]] [.aa [48,47,46,43,8,7,32,20,6,5,3,0,1,2] [5,3]] [yI (aE P)]<|zB 0 (zL (fun (j:Nat)=>(⟨[(47,ai (↑P.length:Int)),(46,AV.sl 1 (aj P)),(43,ao (mN C != (0:Int))),(8,ai (mN C)),(32,ao ((↑P.length:Int) != (↑k:Int))),(20,ao (decide ((↑i:Int)<0∨(↑((2:Nat)^k):Int)≤(↑i:Int)))),(6,ai 0),(5,AV.addr 5 0),(3,AV.addr 3 0),(0,AV.agg [ai ↑k,aw r]),(1,aw m),(2,AV.agg [ai ↑i,AV.sl 1 (aj C),AV.sl 1 (aj P)]),(48,ai j),(7,aw (dA i P (combine i (cN i m C 18)) j))],[(5,⟨1,false,true,[ai ↑i,AV.sl 1 (aj C),AV.sl 1 (aj P)]⟩),(3,⟨1,false,true,[ai ↑k,aw r]⟩)]⟩:AS)) (fun j=>(j≤k)) (fun j=>(k-j)) (0) ?_ (eX [.aa [47,46,43,8,32,20,6,5,3,0,1,2,48,7] [5,3]] [7] [] [yB (aw (qw (↑i:Int) m C)=aw (dA i P (combine (↑i:Int) (cN (↑i:Int) m C 18)) 0)) (congrArg aw hr)]) ?_)
 ·omega
 intro j hj
 refine bf.nQ 1 [{}] bC (s':=AS.mk [(49,ao (decide ((↑j:Int)<(↑P.length:Int)))),(47,ai (↑P.length:Int)),(46,AV.sl 1 (aj P)),(43,ao (mN C != (0:Int))),(8,ai (mN C)),(32,ao ((↑P.length:Int) != (↑k:Int))),(20,ao (decide ((↑i:Int)<0∨(↑((2:Nat)^k):Int)≤(↑i:Int)))),(6,ai 0),(5,AV.addr 5 0),(3,AV.addr 3 0),(0,AV.agg [ai ↑k,aw r]),(1,aw m),(2,AV.agg [ai ↑i,AV.sl 1 (aj C),AV.sl 1 (aj P)]),(48,ai ↑j),(7,aw (dA i P (combine (↑i:Int) (cN (↑i:Int) m C 18)) j))] [(5,Row.mk 1 false true [ai ↑i,AV.sl 1 (aj C),AV.sl 1 (aj P)]),(3,Row.mk 1 false true [ai ↑k,aw r])]) (C:=[]) bC trivial<|zS (zD 49 ((↑j:Int)<(↑P.length:Int)) (fun g=>?_) (fun g=>?_))
 ·have hs:=xG i j ag
  have hle:i/2^j≤i:=Nat.div_le_self ..
  have hq:i/2^j<16:=ag
  have ha:=Gi _ hq
  have OB:(0:Int)≤wv (u64 (j:Int)):=Int.natCast_nonneg _
  have Ts:IntKind.i64.wrap ((j:Int)+1)=((j+1:Nat):Int):=by rw [fw ag ag];omega
  have hc:dA i P (combine i (cN i m C 18)) (j+1)=if i/2^j%2=0 then ia ((j+1:Nat):Int) (dA i P (combine i (cN i m C 18)) j) (P.getD j 0) else ia ((j+1:Nat):Int) (P.getD j 0) (dA i P (combine i (cN i m C 18)) j):=rfl
  generalize i/2^j=q at *
  generalize hx:dA i P (combine i (cN i m C 18)) j=x at *
  by_cases h2:q%2=0
  ·rw [if_pos h2] at hc
   generalize q%2=q2 at *
   refine a6<|zS<|zB 1<|zP 2 [yH [(1,{k:=j}),(2,yV (aw (P.getD j 0)))],yH [(3,yV (ai ↑q)),(4,yV (ai ↑q2))]] [.aa [58,10,9,49,47,46,43,8,32,20,6,5,3,0,1,2,48,7] [5,3]] [yR (↑j:Int),yB (j<(aj P).length) (by simp only [aE];omega),yB ((aj P)[j]?=some (aw (P.getD j 0))) (eM ag),yI (yc hs),yO ((0:Int)≤(↑j:Int)),yI (yc ha)]<|du 58 ((↑q2:Int) == (0:Int)) fh<|zX (yH [(1,yV (ai (↑(j+1):Int))),(4,yV (aw (ia (↑(j+1):Int) x (P.getD j 0))))]) [yB (ai (IntKind.i64.wrap ((↑j:Int)+1))=ai (↑(j+1):Int)) (eG ag ag),yI (pR (↑(j+1):Int) x (P.getD j 0))]<|aK<|al<|bf.QD {hs:=[(0,{av:=some (ai ((↑j:Int)+1))})]} (s':=AS.mk [(48,ai ((↑j:Int)+1)),(69,ai ((↑j:Int)+1)),(7,aw (ia (↑(j+1):Int) x (P.getD j 0))),(63,aw (ia (↑(j+1):Int) x (P.getD j 0))),(62,aw (P.getD j 0)),(61,aw x),(60,ai (↑(j+1):Int)),(59,ai ↑j),(58,ao ((↑q2:Int) == (0:Int))),(10,aw (P.getD j 0)),(9,ai ↑j),(49,ao (decide ((↑j:Int)<(↑P.length:Int)))),(47,ai (↑P.length:Int)),(46,AV.sl 1 (aj P)),(43,ao (mN C != (0:Int))),(8,ai (mN C)),(32,ao ((↑P.length:Int) != (↑k:Int))),(20,ao (decide ((↑i:Int)<0∨(↑((2:Nat)^k):Int)≤(↑i:Int)))),(6,ai 0),(5,AV.addr 5 0),(3,AV.addr 3 0),(0,AV.agg [ai ↑k,aw r]),(1,aw m),(2,AV.agg [ai ↑i,AV.sl 1 (aj C),AV.sl 1 (aj P)])] [(5,Row.mk 1 false true [ai ↑i,AV.sl 1 (aj C),AV.sl 1 (aj P)]),(3,Row.mk 1 false true [ai ↑k,aw r])]) (C:=[ai (IntKind.i64.wrap ((↑j:Int)+1))=ai ((↑j:Int)+1)]) bC ⟨(eG ag ag),trivial⟩ (aF (j+1) ag ag (eX [.aa [47,46,43,8,32,20,6,5,3,0,1,2,48,7] [5,3]] [7] [] [yB (aw (ia (↑(j+1):Int) x (P.getD j 0))=aw (dA i P (combine (↑i:Int) (cN (↑i:Int) m C 18)) (j+1))) (by rw [hc])]))
  ·rw [if_neg h2] at hc
   generalize q%2=q2 at *
   refine a6<|zS<|zB 1<|zP 2 [yH [(1,{k:=j}),(2,yV (aw (P.getD j 0)))],yH [(3,yV (ai ↑q)),(4,yV (ai ↑q2))]] [.aa [58,10,9,49,47,46,43,8,32,20,6,5,3,0,1,2,48,7] [5,3]] [yR (↑j:Int),yB (j<(aj P).length) (by simp only [aE];omega),yB ((aj P)[j]?=some (aw (P.getD j 0))) (eM ag),yI (yc hs),yO ((0:Int)≤(↑j:Int)),yI (yc ha)]<|bj 58 ((↑q2:Int) == (0:Int)) bx<|zX (yH [(1,yV (ai (↑(j+1):Int))),(4,yV (aw (ia (↑(j+1):Int) (P.getD j 0) x)))]) [yB (ai (IntKind.i64.wrap ((↑j:Int)+1))=ai (↑(j+1):Int)) (eG ag ag),yI (pR (↑(j+1):Int) (P.getD j 0) x)]<|aK<|al<|zX (yH [(0,yV (ai ((↑j:Int)+1)))]) [yN ((↑j:Int)+1)] (aF (j+1) ag ag (eX [.aa [47,46,43,8,32,20,6,5,3,0,1,2,48,7] [5,3]] [7] [] [yB (aw (ia (↑(j+1):Int) (P.getD j 0) x)=aw (dA i P (combine (↑i:Int) (cN (↑i:Int) m C 18)) (j+1))) (by rw [hc])]))
 ·have e:j=k:=ag
  subst e
  by_cases kv:dA i P (combine i (cN i m C 18)) j=r
  ·rw [if_pos kv]
   refine zE 0<|a7<|aP<|bp<|al<|zS<|zP 1 [yH [(3,yV (ao (dA i P (combine (↑i:Int) (cN (↑i:Int) m C 18)) j != r)))]] [.aa [73,49,47,46,43,8,32,20,6,5,3,0,1,2,48,7] [5,3]] [yI (cK (dA i P (combine (↑i:Int) (cN (↑i:Int) m C 18)) j) r)]<|bj 73 (dA i P (combine (↑i:Int) (cN (↑i:Int) m C 18)) j != r) (by simp_all)<|a6<|zq<|zR (bL)
  ·rw [if_neg kv]
   refine zE 0<|a7<|aP<|bp<|al<|zS<|zP 1 [yH [(3,yV (ao (dA i P (combine (↑i:Int) (cN (↑i:Int) m C 18)) j != r)))]] [.aa [73,49,47,46,43,8,32,20,6,5,3,0,1,2,48,7] [5,3]] [yI (cK (dA i P (combine (↑i:Int) (cN (↑i:Int) m C 18)) j) r)]<|du 73 (dA i P (combine (↑i:Int) (cN (↑i:Int) m C 18)) j != r) (by simp_all)<|zq<|dk (bL)
instance:Inhabited gW:=⟨⟨[],0,[],[]⟩⟩
def PS (a b:List UInt8):Bool:=Op.bytesLess (⟨a.toArray⟩:ByteArray).toList (⟨b.toArray⟩:ByteArray).toList
def gJ (leaf:Int):UInt64:=(1:UInt64)<<<UInt64.ofNat leaf.toNat
def L3 (l:List Mem) (n:List UInt8):Mem:=l.getD (cT l n).toNat default
def iJ (g:fG) (w:UInt64) (l:List gW) (i:Nat):Int :=
 if 0<i∧xT (l.getD i default).name (l.getD (i-1) default).name=true then 7 else if cT g.aq (l.getD i default).name<0 then 11
 else if kM (L3 g.aq (l.getD i default).name).h (L3 g.aq (l.getD i default).name).r w (l.getD i default).leaf (l.getD i default).fb (l.getD i default).path≠0 then kM (L3 g.aq (l.getD i default).name).h (L3 g.aq (l.getD i default).name).r w (l.getD i default).leaf (l.getD i default).fb (l.getD i default).path
 else if (L3 g.aq (l.getD i default).name).used&&&gJ (l.getD i default).leaf≠0 then 37 else 0
def fH (g:fG) (w:UInt64) (l:List gW):Int:=if ff (iJ g w l) l.length≠0 then ff (iJ g w l) l.length else if (l.length:Int)<g.bm then 41 else 0
def ke (l:List Mem) (k:Nat):List Mem:=l.take k++l.drop (k+1)
def tO (g:fG) (l:List (List UInt8)) (i:Nat):Int:=if cT g.aq (l.getD i default)<0 then 11 else 0
def gT (g:fG) (e:dj):Int :=
 if e.kind=1 then (if 0≤cT g.aq e.name then 10 else if 8≤g.aq.length then 12 else 0)
 else if e.kind=2 then (if cT g.aq e.name<0 then 11 else if (g.aq.length:Int)-1<g.bm then 41 else 0)
 else if e.kind=3 then (if (g.aq.length:Int)<e.bm∨2*e.bm≤g.aq.length then 41 else 0)
 else if e.kind=4 then (if 8≤g.aR.length then 12 else if ug g.aR e.dep.cm<g.aR.length then 10 else ff (tO g e.dep.af) e.dep.af.length)
 else if ug g.aR e.cm=g.aR.length then 11 else if (g.aR.getD (ug g.aR e.cm) default).target≠0 then 18 else 0
def rO (l:List oD) (k:Nat) (t:UInt64):List oD:=l.set k {l.getD k default with target:=t}
def cw (g:fG) (e:dj):fG :=
 if gT g e≠0 then g else if e.kind=1 then {g with bm:=if 2*g.bm≤g.aq.length+1 then g.bm+1 else g.bm,aq:=g.aq++ [⟨e.name,e.kh,e.kr,0⟩]}
 else if e.kind=2 then {g with aq:=ke g.aq (cT g.aq e.name).toNat} else if e.kind=3 then {g with bm:=e.bm}
 else if e.kind=4 then {g with aR:=g.aR++ [e.dep]} else {g with aR:=rO g.aR (ug g.aR e.cm) e.target}
def nJ (l:List Mem) (v:gW):List Mem:=if cT l v.name<0 then l else l.set (cT l v.name).toNat {L3 l v.name with used:=(L3 l v.name).used|||gJ v.leaf}
def iz (l:List Mem) (vs:List gW):List Mem:=vs.foldl nJ l
def eW (g:fG) (e:dj):Int:=if eO e≠0 then eO e else if e.aC≠g.aC+1∨e.prev≠g.head then 42 else if fH g (cO e) e.ak≠0 then fH g (cO e) e.ak else gT g e
def ga (g:fG) (e:dj):fG:=if eW g e≠0 then g else ⟨e.aC,cO e,(cw g e).bm,iz (cw g e).aq e.ak,(cw g e).aR⟩
def BA (l:List gW) (n:List UInt8):Nat:=(l.takeWhile fun v=>PS v.name n).length
def l0 (l:List gW) (n:List UInt8):Bool:=l.any fun v=>v.name == n
def mJ (e:dj) (n:List UInt8) (h leaf:Int):Int:=if eO e≠0 then eO e else if l0 e.ak n=true then 10 else Bc h leaf
def vC (l:List gW) (v:gW):List gW:=l.take (BA l v.name)++ [v]++l.drop (BA l v.name)
def qg (e:dj) (n:List UInt8) (seed:UInt64) (h leaf:Int):dj :=
 if mJ e n h leaf≠0 then ⟨0,0,0,[],0,0,0,⟨0,0,[],[],[],0,0⟩,0,0,[]⟩ else {e with ak:=vC e.ak ⟨n,qo h leaf,pE seed h leaf (cO e),pD seed h leaf⟩}
theorem uH {h:Int} {r m:UInt64} {leaf:Int} {C P:List UInt64} (e:kM h r m leaf C P=0):0≤leaf∧leaf<16:=by
 have nb:¬iV h leaf:=by
  intro q
  unfold kM at e
  rw [if_pos q] at e;omega
 unfold iV ck at nb
 have:2^h.toNat≤2^4:=Nat.pow_le_pow_right (by decide) ag
 omega
theorem PG (u:UInt64) (n:Nat) (h:n<64):((u>>>UInt64.ofNat n)&&&1=1)↔u&&&((1:UInt64)<<<UInt64.ofNat n)≠0:=by
 have hn:(UInt64.ofNat n).toNat%64=n:=by rw [UInt64.toNat_ofNat_of_lt' (by show n<2^64;omega)];omega
 have h1:((u>>>UInt64.ofNat n)&&&1=1)↔u.toNat.testBit n=true:=by
  rw [←UInt64.toNat_inj,UInt64.toNat_and,UInt64.toNat_shiftRight,hn]
  show (u.toNat>>>n)&&&1=1↔_
  rw [Nat.and_one_is_mod,Nat.testBit]
  simp [Nat.one_and_eq_mod_two]
 have h2:u&&&((1:UInt64)<<<UInt64.ofNat n)=0↔u.toNat.testBit n=false:=by
  rw [←UInt64.toNat_inj,UInt64.toNat_and,UInt64.toNat_shiftLeft,hn]
  show u.toNat&&&((1<<<n)%2^64)=0↔_
  rw [Nat.mod_eq_of_lt (by rw [Nat.one_shiftLeft];exact Nat.pow_lt_pow_right (by decide) h),Nat.one_shiftLeft]
  constructor
  ·intro q
   cases hb:u.toNat.testBit n with
   | false=>rfl
   | true =>
    have:=congrArg (fun x=>x.testBit n) q
    simp [Nat.testBit_and,hb,Nat.testBit_two_pow_self] at this
  ·intro q
   refine Nat.eq_of_testBit_eq fun i=>?_
   rw [Nat.testBit_and,Nat.testBit_two_pow,Nat.zero_testBit]
   by_cases e:n=i
   ·subst e;rw [q];rfl
   ·simp [e]
 rw [h1,ne_eq,h2]
 cases u.toNat.testBit n<;>simp
theorem eN (l:List Mem) (n:List UInt8):cT l n= -1∨ ∃k:Nat,cT l n=k∧k<l.length∧(l.getD k default).name=n:=by
 unfold cT
 split
 ·rename_i h
  obtain ⟨m,hm,e⟩:=h
  have cZ:=List.findIdx_lt_length_of_exists (p:=fun m:Mem=>m.name == n) ⟨m,hm,by simp [e]⟩
  refine .inr ⟨_,rfl,cZ,?_⟩
  have:=List.findIdx_getElem (p:=fun m:Mem=>m.name == n) (w:=cZ)
  rw [List.getD_eq_getElem?_getD,List.getElem?_eq_getElem cZ]
  simpa using this
 ·exact .inl rfl
def LB (es:List (Nat×Nat)) (j:Nat):AV->AV
 | .nil=>(match look es j with|some e=>.sl e []|none=>.nil)
 | x=>x
theorem LA (es:List (Nat×Nat)) (j:Nat) (x:AV):LB es j x=x∨x= .nil∧ ∃e,LB es j x= .sl e []:=by
 cases x with
 | nil =>
  cases h:look es j with
  | none=>exact .inl (by show (match look es j with|some e=>AV.sl e []|none=>.nil)=_;rw [h])
  | some e=>exact .inr ⟨rfl,e,by show (match look es j with|some e=>AV.sl e []|none=>.nil)=_;rw [h]⟩
 | _=>exact .inl rfl
def LC (es:List (Nat×Nat)):List AV->Nat->List AV
 | [],_=>[]
 | x::l,j=>LB es j x::LC es l (j+1)
def Sb (es:List (Nat×Nat)):AV->AV
 | .agg cs=>.agg (LC es cs 0)
 | x=>x
theorem yQ (es:List (Nat×Nat)):∀(l:List AV) (j:Nat),(LC es l j).length=l.length
 | [],_=>rfl
 | _::l,j=>congrArg (· +1) (yQ es l (j+1))
theorem Db (es:List (Nat×Nat)):∀(l:List AV) (j i:Nat) (y:AV),(LC es l j)[i]?=some y-> ∃x,l[i]?=some x∧(y=x∨x= .nil∧ ∃e,y= .sl e [])
 | [],_,_,_,h=>by cases h
 | x::l,j,0,y,h=>by
  have h:some (LB es j x)=some y:=h
  injection h with h
  subst h
  exact ⟨x,rfl,LA es j x⟩
 | x::l,j,i+1,y,h=>Db es l (j+1) i y h
theorem cz.Sb (es:List (Nat×Nat)) {S:Nat->Prop} {w:World} {v:Value} {x:AV} (h:cz S w v x):cz S w v (Sb es x):=by
 cases h with
 | agg vs cs hl h =>
  refine .agg vs _ (by rw [hl,yQ]) fun j v c hv hc=>?_
  obtain ⟨x,hx,e⟩:=Db es cs 0 j c hc
  have hr:=h j v x hv hx
  rcases e with rfl|⟨rfl,e,rfl⟩
  ·exact hr
  ·cases hr;exact i4 none 0 0 e (by simp) (Nat.le_refl _) (by simp)
 | nil=>exact .nil
 | val v=>exact .val v
 | b_ vs cs hl h=>exact .b_ vs cs hl h
 | arr vs cs hl h=>exact .arr vs cs hl h
 | sl A n c e us row hl hn hc hm ha h=>exact .sl A n c e us row hl hn hc hm ha h
 | sm A n e us row hl hn hm ha h=>exact .sm A n e us row hl hn hm ha h
 | ptr ad us row off hl hs ha h=>exact .ptr ad us row off hl hs ha h
 | lu f vs cs hl h=>exact .lu f vs cs hl h
theorem bA.I5 (es:List (Nat×Nat)) {P:Program} {f:FuncId} {args:List AV} {r:AV} (h:bA P f (args.map (Sb es)) r):bA P f args r:=by
 intro w S vs km hS hv hr
 refine h w S vs km hS (by rw [List.length_map];exact hv) fun j v y V4 hy=>?_
 rw [List.getElem?_map] at hy
 cases hx:args[j]? with
 | none=>rw [hx] at hy;cases hy
 | some x=>rw [hx] at hy;cases hy;exact (hr j v x V4 hx).Sb es
theorem bO.SX {s:AS} (id:Nat) (es:List (Nat×Nat)) {r:Row} (hr:look s.H id=some r):bO s ⟨s.F,(id,⟨r.e,r.pure,r.full,LC es r.cells 0⟩)::cP s.H id⟩:=by
 intro S0 w0 n a w ⟨φ,hs⟩
 have hl:=yQ es r.cells 0
 have hI:az ((id,(⟨r.e,r.pure,r.full,LC es r.cells 0⟩:Row))::cP s.H id) φ=az s.H φ:=by
  funext i
  unfold az
  rw [aD]
  by_cases e1:id=i
  ·subst e1;rw [if_pos rfl,hr];show some (r.e,(LC es r.cells 0).length,φ id)=_;rw [hl];rfl
  ·rw [if_neg e1,bD,if_neg e1]
 refine ⟨φ,hs.j7,hs.j_,hs.cX,fun i av hi=>by rw [hI];exact hs.cA i av hi,fun i q hq=>?_,fun i hi=>?_,hs.inj,hs.cW,hs.apart,hs.new⟩
 ·rw [hI]
  rw [aD] at hq
  by_cases e1:id=i
  ·subst e1
   rw [if_pos rfl] at hq;injection hq with hq;subst hq
   have aS:=hs.rows id r hr
   unfold bK at aS ⊢
   cases hg:φ id with
   | none=>rw [hg] at aS;exact List.eq_nil_of_length_eq_zero (by rw [hl,aS];rfl)
   | some g =>
    rw [hg] at aS
    obtain ⟨cur,te,fr,u1,u2,u3,u4,u5⟩:=aS
    refine ⟨cur,te,fr,u1,u2,by rw [hl];exact u3,fun h=>by rw [hl];exact u4 h,fun k u x hu hx=>?_⟩
    obtain ⟨y,hy,e⟩:=Db es r.cells 0 k x hx
    have:=u5 k u y hu hy
    unfold bg at this ⊢
    rcases e with rfl|⟨rfl,e2,rfl⟩
    ·exact this
    ·have hv:u= .slice none 0 0:=by
      cases hp:r.pure with
      | true=>rw [hp] at this;cases this;rfl
      | false =>
       rw [hp] at this
       have this:Den _ _ _ u .nil:=this
       cases this with
       | rep h=>cases h;rfl
     subst hv
     show match r.pure with|true=>cz _ _ _ _|false=>Den _ _ _ _ _
     cases r.pure with
     | true=>exact i4 none 0 0 e2 (by simp) (Nat.le_refl _) (by simp)
     | false=>exact .rep (i4 none 0 0 e2 (by simp) (Nat.le_refl _) (by simp))
  ·rw [if_neg e1,bD,if_neg e1] at hq
   exact hs.rows i q hq
 ·rw [aD] at hi
  by_cases e1:id=i
  ·subst e1;rw [if_pos rfl] at hi;cases hi
  ·rw [if_neg e1,bD,if_neg e1] at hi;exact hs.only i hi
def Gz (s:AS) (id:Nat):Row:=match look s.H id with|some r=>r|none=>⟨0,true,false,[]⟩
theorem bO.Ot {s:AS} (id:Nat) (es:List (Nat×Nat)) (hr:look s.H id=some (Gz s id)):bO s ⟨s.F,(id,⟨(Gz s id).e,(Gz s id).pure,(Gz s id).full,LC es (Gz s id).cells 0⟩)::cP s.H id⟩:=bO.SX id es hr
theorem Ow {ι:Type} {Inv:ι->Prop} {J:ι->AS} {s s1:AS} (hw:bO s s1) (h:∃x,Inv x∧bO s1 (J x)):∃x,Inv x∧bO s (J x):=by
 obtain ⟨x,hx,h⟩:=h
 exact ⟨x,hx,fun S0 w0 n a w hs=>h S0 w0 n a w (hw S0 w0 n a w hs)⟩
end Go.Proofs.YtjgbhhnghedgdaaGreatDoor
