import Derived.Test.YtjgbhhnghedgdaaGreatDoorZsTk2
set_option linter.all false
namespace Go.Proofs.YtjgbhhnghedgdaaGreatDoor
open Go.RowKit
set_option maxRecDepth 100000
set_option maxHeartbeats 4000000
def cX (seed:UInt64) (leaf:Nat) (n:Nat):List UInt64:=(List.range n).map fun k=>fM seed k (leaf/2^k^^^1)
theorem tL (seed:UInt64) (leaf k:Nat):cX seed leaf (k+1)=cX seed leaf k++ [fM seed k (leaf/2^k^^^1)]:=by simp [cX,List.range_succ]
theorem qD (seed:UInt64) (leaf k:Nat):(cX seed leaf k).length=k:=by simp [cX]
theorem Gt (leaf k:Nat) (hk:k≤4):((leaf:Int)).fdiv (2^min (wv (u64 (k:Int))).toNat IntKind.i64.bits)=((leaf/2^k:Nat):Int):=by
 have e:(2:Int)^min (wv (u64 (k:Int))).toNat IntKind.i64.bits=((2^k:Nat):Int):=by
  rcases (ah:k=0∨k=1∨k=2∨k=3∨k=4) with rfl|rfl|rfl|rfl|rfl<;>decide +kernel
 rw [e,Int.fdiv_eq_ediv_of_nonneg _ (Int.natCast_nonneg _)];rfl
theorem C6 (q:Nat) (hq:q<16):IntKind.i64.wrap ((BitVec.ofInt IntKind.i64.bits (q:Int)^^^BitVec.ofInt IntKind.i64.bits 1).toNat:Nat)=((q^^^1:Nat):Int):=by
 have key:∀q:Fin 16,IntKind.i64.wrap ((BitVec.ofInt IntKind.i64.bits ((q.val:Nat):Int)^^^BitVec.ofInt IntKind.i64.bits 1).toNat:Nat)=((q.val^^^1:Nat):Int):=by decide +kernel
 exact key ⟨q,hq⟩
theorem LW (q:Nat) (hq:q<16):q^^^1<16:=by
 have key:∀q:Fin 16,q.val^^^1<16:=by decide +kernel
 exact key ⟨q,hq⟩
theorem Bv (seed:UInt64) (h leaf:Nat) (m:UInt64) (hh:h≤4) (hl:leaf<2^h):bK Tryz.prog 55 [aw seed,ai h,ai leaf,aw m] (.br [.agg [ai leaf,.own 1 (aj (bP seed leaf m 18)),.own 1 (aj (cX seed leaf h))],ai 0]):=by
 have hb:¬bQ (h:Int):=by unfold bQ;omega
 have hp:2^h≤16:=Nat.pow_le_pow_right (by decide) hh
 have Kt:IntKind.i64.wrap (1*2^min (wv (u64 (h:Int))).toNat IntKind.i64.bits)=((2^h:Nat):Int):=by
  rcases (ah:h=0∨h=1∨h=2∨h=3∨h=4) with rfl|rfl|rfl|rfl|rfl<;>decide +kernel
 have Qh:(0:Int)≤wv (u64 (h:Int)):=Int.natCast_nonneg _
 refine zO Tryz.func55 52<|zq<|zS<|zP 1 [yH ([(1,yV (ao (!decide (bQ (↑h:Int))))),(6,{b:=false}),(10,{av:=some (aw (u64 (↑h:Int))),g:=false}),(11,{av:=some (ai (↑((2:Nat)^h):Int)),g:=false}),(13,{b:=false})]++yg [4,5,8,9,12])] [.aa [25,9,8,0,1,2,3] [8]] ([yI (dO ((↑h:Int)))]++yM 3 (yS ((!!decide (bQ (↑h:Int)))=false))++yM 3 (yR false)++ [yI (a6 ((↑h:Int))),yR false,yI (yc Kt),yI Qh,yR false,yR false])<|dK 25 ((↑leaf:Int)≥(↑((2:Nat)^h):Int))<|a8<|zP 1 [yH [(4,yV (AV.own 1 (aj (bP seed (↑leaf:Int) m 18))))]] [.aa [10,25,9,8,0,1,2,3] [10,31,8]] [yI (wY seed ((↑leaf:Int)) m),yB (lC (aj (bP seed (↑leaf:Int) m 18))) (gg _),yL 3 3]<|zS<|zq<|zB 0<|a7.ow (bN.K7 10 2 49 1 (r:=⟨1,false,true,[ai leaf,.ref 31,.nil]⟩) bH rfl rfl bH) (zL (fun (k:Nat)=>(⟨[(10,AV.addr 10 0),(25,ao (decide ((↑leaf:Int)≥(↑((2:Nat)^h):Int)))),(9,ai 0),(8,AV.addr 8 0),(0,aw seed),(1,ai ↑h),(2,ai ↑leaf),(3,aw m),(11,ai k)],[(8,⟨1,false,true,[ai 0,AV.nil,AV.nil]⟩),(31,⟨1,true,false,aj (bP seed (↑leaf:Int) m 18)⟩),(10,⟨1,false,true,[ai leaf,AV.ref 31,AV.ref 49]⟩),(49,⟨1,true,false,aj (cX seed leaf k)⟩)]⟩:AS)) (fun k=>(k≤h)) (fun k=>(h-k)) (0) ?_ (zW [.aa [10,25,9,8,0,1,2,3,11] [8,31,10,49]]) ?_)
 ·omega
 intro k hk
 refine zS<|a7.rE 1 [{}] [.aa [35,10,25,9,8,0,1,2,3,11] [8,31,10,49]] bH (s':=AS.mk [(35,ao (decide ((↑k:Int)<(↑h:Int)))),(10,AV.addr 10 0),(25,ao (decide ((↑leaf:Int)≥(↑((2:Nat)^h):Int)))),(9,ai 0),(8,AV.addr 8 0),(0,aw seed),(1,ai ↑h),(2,ai ↑leaf),(3,aw m),(11,ai ↑k)] [(8,Row.mk 1 false true [ai 0,AV.nil,AV.nil]),(31,Row.mk 1 true false (aj (bP seed (↑leaf:Int) m 18))),(10,Row.mk 1 false true [ai ↑leaf,AV.ref 31,AV.ref 49]),(49,Row.mk 1 true false (aj (cX seed leaf k)))]) (C:=[]) bH trivial (zD 35 ((↑k:Int)<(↑h:Int)) (fun g=>?_) (fun g=>?_))
 ·have Ad:k≤4:=ah
  have hs:=Gt leaf k Ad
  have hle:leaf/2^k≤leaf:=Nat.div_le_self ..
  have hq:leaf/2^k<16:=ah
  have hx:=C6 _ hq
  have cW:=LW _ hq
  have ep:=tL seed leaf k
  have Qg:(0:Int)≤wv (u64 (k:Int)):=Int.natCast_nonneg _
  have hn:=rG seed k (leaf/2^k^^^1) Ad (Nat.lt_of_lt_of_le cW (Nat.le_trans (by decide:16≤2^36) (Nat.pow_le_pow_right (by decide) ah)))
  generalize leaf/2^k^^^1=x at *
  generalize fM seed k x=r at *
  generalize leaf/2^k=q at *
  refine a8<|zS<|zB 1<|zX ({hs:=[(6,yV (aw (u64 (↑k:Int)))),(7,yV (ai ↑q)),(8,yV (ai ↑x)),(9,yV (aw r)),(10,yV (AV.arr (aj [r]))),(11,yV (AV.arr (aj (cX seed leaf k++ [r]))))],T:=11}) [yI (a6 ((↑k:Int))),yI (yc hs),yI Qg,yI (yc hx),yI hn,yR [aw r],yB (aj (cX seed leaf k)++aj [r]=aj (cX seed leaf k++ [r])) (kn _ _),yB (((aj (cX seed leaf k)).length+1)*8≤140737488355328) (by simp only [aD,qD];omega),yL 3 3]<|aM<|ak<|zX (yH [(1,yV (ai ((↑k:Int)+1)))]) [yN ((↑k:Int)+1)] (aI (k+1) ah ah (e_ [.aa [10,25,9,8,0,1,2,3,11] [8,31,10,49]] [] [49] [yB (aj (cX seed leaf k++ [r])=aj (cX seed leaf (k+1))) (congrArg aj ep.symm)]))
 ·have e:k=h:=ah
  subst e
  refine zE 0<|aY<|aN<|bm<|ak<|zP 1 [{}] [.aa [9,35,10,25,8,0,1,2,3,11] [8,31,10,49]] [yL 3 3]<|zR (cE)
def jK (h leaf:Int):Prop:=bQ h∨leaf<0∨((2^h.toNat:Nat):Int)≤leaf
instance (h leaf:Int):Decidable (jK h leaf):=by unfold jK;infer_instance
def vN (h leaf:Int):Int:=if jK h leaf then 9 else 0
def oA (h leaf:Int):Int:=if jK h leaf then 0 else leaf
def nZ (seed:UInt64) (h leaf:Int) (m:UInt64):List UInt64:=if jK h leaf then [] else bP seed leaf m 18
def nY (seed:UInt64) (h leaf:Int):List UInt64:=if jK h leaf then [] else cX seed leaf.toNat h.toNat
theorem rF (seed:UInt64) (h leaf:Int) (m:UInt64):bK Tryz.prog 55 [aw seed,ai h,ai leaf,aw m] (.br [.agg [ai (oA h leaf),.own 1 (aj (nZ seed h leaf m)),.own 1 (aj (nY seed h leaf))],ai (vN h leaf)]):=by
 by_cases fT:jK h leaf
 ·have e1:vN h leaf=9:=if_pos fT
  have e2:oA h leaf=0:=if_pos fT
  have e3:nZ seed h leaf m= []:=if_pos fT
  have e4:nY seed h leaf= []:=if_pos fT
  rw [e1,e2,e3,e4]
  unfold jK at fT
  by_cases hb:bQ h
  ·refine zO Tryz.func55 52<|zq<|zS<|zP 1 [yH [(1,yV (ao (!decide (bQ h))))]] [.aa [25,9,8,0,1,2,3] [8]] ([yI (dO h)]++yM 3 (yS ((!!decide (bQ h))=true))++yM 6 (yR true))<|zT 25<|zP 1 [{}] [.aa [9,25,8,0,1,2,3] [8]] [yL 3 3]<|dW (cE)
  have va:0≤h∧h≤4:=by unfold bQ at hb;omega
  obtain ⟨k,rfl⟩:=Int.eq_ofNat_of_zero_le va.1
  rw [Int.toNat_natCast] at fT
  by_cases cW:leaf<0
  ·refine zO Tryz.func55 52<|zq<|zS<|zP 1 [yH ([(1,yV (ao (!decide (bQ (↑k:Int))))),(6,{b:=false})]++yg [4,5])] [.aa [25,9,8,0,1,2,3] [8]] ([yI (dO ((↑k:Int)))]++yM 3 (yS ((!!decide (bQ (↑k:Int)))=false))++yM 6 (yT (leaf<0)))<|zT 25<|zP 1 [{}] [.aa [9,25,8,0,1,2,3] [8]] [yL 3 3]<|dW (cE)
  have u_:((2^k:Nat):Int)≤leaf:=by rcases fT with h|h|h<;>first|exact absurd h hb|exact absurd h cW|exact h
  have hp:2^k≤16:=Nat.pow_le_pow_right (by decide) (by omega:k≤4)
  have Kt:IntKind.i64.wrap (1*2^min (wv (u64 (k:Int))).toNat IntKind.i64.bits)=((2^k:Nat):Int):=by
   rcases (ah:k=0∨k=1∨k=2∨k=3∨k=4) with rfl|rfl|rfl|rfl|rfl<;>decide +kernel
  have Qh:(0:Int)≤wv (u64 (k:Int)):=Int.natCast_nonneg _
  generalize 2^k=p2 at *
  refine zO Tryz.func55 52<|zq<|zS<|zP 1 [yH ([(1,yV (ao (!decide (bQ (↑k:Int))))),(6,{b:=false}),(10,{av:=some (aw (u64 (↑k:Int))),g:=false}),(11,{av:=some (ai ↑p2),g:=false}),(13,{b:=false})]++yg [4,5,8,9,12])] [.aa [25,9,8,0,1,2,3] [8]] ([yI (dO ((↑k:Int)))]++yM 3 (yS ((!!decide (bQ (↑k:Int)))=false))++yM 3 (yF (leaf<0))++ [yI (a6 ((↑k:Int))),yF (leaf<0),yI (yc Kt),yI Qh]++yM 2 (yF (leaf<0)))<|jO 25 (leaf≥(↑p2:Int))<|zP 1 [{}] [.aa [9,25,8,0,1,2,3] [8]] [yL 3 3]<|dW (cE)
 ·have e1:vN h leaf=0:=if_neg fT
  have e2:oA h leaf=leaf:=if_neg fT
  have e3:nZ seed h leaf m=bP seed leaf m 18:=if_neg fT
  have e4:nY seed h leaf=cX seed leaf.toNat h.toNat:=if_neg fT
  rw [e1,e2,e3,e4]
  unfold jK bQ at fT
  have va:0≤h∧h≤4∧0≤leaf:=ah
  obtain ⟨k,rfl⟩:=Int.eq_ofNat_of_zero_le va.1
  obtain ⟨i,rfl⟩:=Int.eq_ofNat_of_zero_le va.2.2
  rw [Int.toNat_natCast,Int.toNat_natCast]
  rw [Int.toNat_natCast] at fT
  exact Bv seed k i m ah ah
theorem Gq (seed:UInt64) (h leaf:Int) (m:UInt64) (fT:jK h leaf):bK Tryz.prog 51 [aw seed,ai h,ai leaf,aw m] (.br [.agg [ai 0,.sl 1 (aj []),.own 1 (aj [])],ai 9]):=by
 unfold jK at fT
 by_cases hb:bQ h
 ·refine zO Tryz.func51 48<|zq<|zS<|zP 1 [yH [(1,yV (ao (decide (bQ h))))]] [.aa [19,9,8,6,5,0,1,2,3] [8,6,5]] ([yI (gQ h)]++yM 4 (yT (bQ h)))<|zT 19<|zP 1 [{}] [.aa [9,19,8,6,5,0,1,2,3] [8,6,5]] [yL 3 3]<|dW (cE)
 have va:0≤h∧h≤4:=by unfold bQ at hb;omega
 obtain ⟨k,rfl⟩:=Int.eq_ofNat_of_zero_le va.1
 rw [Int.toNat_natCast] at fT
 have ho:leaf<0∨((2^k:Nat):Int)≤leaf:=fT.resolve_left hb
 have hk:k≤4:=ah
 refine zO Tryz.func51 48<|zq<|zS<|zP 1 [yH ([(1,yV (ao (decide (bQ (↑k:Int))))),(5,{av:=some (ao (decide (leaf<0∨(↑((2:Nat)^k):Int)≤leaf))),g:=false}),(6,{b:=false})]++yg [3,4])] [.aa [19,9,8,6,5,0,1,2,3] [8,6,5]] ([yI (gQ ((↑k:Int)))]++yM 3 (yF (bQ (↑k:Int)))++ [yI (il leaf k hk),yF (bQ (↑k:Int))])<|jO 19 (leaf<0∨(↑((2:Nat)^k):Int)≤leaf)<|zP 1 [{}] [.aa [9,19,8,6,5,0,1,2,3] [8,6,5]] [yL 3 3]<|dW (cE)
def qt (seed:UInt64) (h leaf:Nat) (x:AV) (i:Nat):List (Nat×Row) :=
 [(1000000000005,⟨1,false,true,[ai (h:Int)]⟩),(1000000000006,⟨1,false,true,[ai (leaf:Int)]⟩),(1000000000008,⟨1,false,true,[ai 0,.nil,.nil]⟩),(1000000000010,⟨1,false,true,[ai (leaf:Int),x,.ref 49]⟩),(49,⟨1,true,false,aj (cX seed leaf (min i h))⟩)]
def yQ (seed:UInt64) (h:Nat) (m:UInt64):List (Nat×AV) :=
 [(29,.lu 142 [.ptr [ai (h:Int)] 0,.ptr [aw seed] 0]),(10,.addr 1000000000010 0),(9,ai 0),(8,.addr 1000000000008 0),(6,.addr 1000000000006 0),(5,.addr 1000000000005 0),(0,aw seed),(3,aw m)]
theorem yP (seed:UInt64) (h leaf:Nat) (m:UInt64) (L:List AV) (i:Nat) (v:Value):C5 [(v,.sl 1 L)] ⟨yQ seed h m,qt seed h leaf (.val v) i⟩ ⟨yQ seed h m,qt seed h leaf (.sl 1 L) i⟩:=by
 intro Z w0 n a w φ hs hr
 have h1:=hs.close_ 1000000000010 1 (r:=⟨1,false,true,[ai (leaf:Int),.val v,.ref 49]⟩) (x:=.sl 1 L) (v:=v) rfl rfl rfl (hr (v,.sl 1 L) (by simp))
 refine h1.congr fun i'=>?_
 show look (qt seed h leaf (.sl 1 L) i) i'=look ((1000000000010,⟨1,false,true,[ai (leaf:Int),.sl 1 L,.ref 49]⟩):: [(1000000000005,⟨1,false,true,[ai (h:Int)]⟩),(1000000000006,⟨1,false,true,[ai (leaf:Int)]⟩),(1000000000008,⟨1,false,true,[ai 0,.nil,.nil]⟩),(49,⟨1,true,false,aj (cX seed leaf (min i h))⟩)]) i'
 unfold qt
 simp only [aB]
 by_cases e:1000000000010=i'
 ·subst e;rfl
 ·simp only [e,if_false]
theorem Gs (seed:UInt64) (h leaf:Nat) (m:UInt64) (L:List AV) (Z:bf) (w0:World) (n:Nat) (a:Act) (w:World) (φ:Nat->Option Nat) (hs:aH Z w0 n [] (AS.mk (yQ seed h m) [(1000000000005,⟨1,false,true,[ai (h:Int)]⟩),(1000000000006,⟨1,false,true,[ai (leaf:Int)]⟩),(1000000000008,⟨1,false,true,[ai 0,.nil,.nil]⟩),(1000000000010,⟨1,false,true,[ai (leaf:Int),.sl 1 L,.nil]⟩)]) a w φ) :
  ∃(jT:Nat->Option Nat) (vs:List Value),vs.length= [AV.sl 1 L].length∧aH Z w0 n [] ⟨yQ seed h m,qt seed h leaf (.val (vs.headD default)) 0⟩ a w jT∧ ∀p∈vs.zip [AV.sl 1 L],cp (aJ Z w jT []) w p.1 p.2:=by
 obtain ⟨jT,h2⟩:=(bN.K7 1000000000010 2 49 1 (r:=⟨1,false,true,[ai (leaf:Int),.sl 1 L,.nil]⟩) rfl rfl rfl rfl) Z w0 n a w ⟨φ,hs⟩
 obtain ⟨v,h3,hr⟩:=h2.open_ 1000000000010 1 (r:=⟨1,false,true,[ai (leaf:Int),.sl 1 L,.ref 49]⟩) (x:=.sl 1 L) rfl rfl rfl rfl
 refine ⟨jT,[v],rfl,h3.congr fun i'=>?_,fun p hp=>?_⟩
 ·show look (qt seed h leaf (.val v) 0) i'=look [(1000000000010,⟨1,false,true,[ai (leaf:Int),.val v,.ref 49]⟩),(49,⟨1,true,false,[]⟩),(1000000000005,⟨1,false,true,[ai (h:Int)]⟩),(1000000000006,⟨1,false,true,[ai (leaf:Int)]⟩),(1000000000008,⟨1,false,true,[ai 0,.nil,.nil]⟩)] i'
  have e0:aj (cX seed leaf (min 0 h))= []:=by simp [cX,aj]
  unfold qt
  rw [e0]
  simp only [aB]
  by_cases e:1000000000010=i'
  ·subst e;rfl
  ·simp only [e,if_false]
   by_cases e:49=i'
   ·subst e;rfl
   ·simp only [e,if_false]
 ·obtain rfl:p=(v,.sl 1 L):=by simpa using hp
  exact hr
theorem vM (leaf k:Nat) (hk:k≤4):((leaf:Int)).fdiv (2^min ((k:Int)).toNat IntKind.i64.bits)=((leaf/2^k:Nat):Int):=by
 have e:(2:Int)^min ((k:Int)).toNat IntKind.i64.bits=((2^k:Nat):Int):=by
  rcases (ah:k=0∨k=1∨k=2∨k=3∨k=4) with rfl|rfl|rfl|rfl|rfl<;>decide +kernel
 rw [e,Int.fdiv_eq_ediv_of_nonneg _ (Int.natCast_nonneg _)];rfl
theorem F7 (q m:Nat) (hm:m≤8) (hq:q<2*m):q^^^1<2*m:=by
 have key:∀m:Fin 9,∀q:Fin 16,q.val<2*m.val->q.val^^^1<2*m.val:=by decide +kernel
 exact key ⟨m,ah⟩ ⟨q,ah⟩ hq
theorem JP (seed:UInt64) (h leaf:Nat) (m:UInt64) (hh:h≤4) (hl:leaf<2^h):bK Tryz.prog 51 [aw seed,ai h,ai leaf,aw m] (.br [.agg [ai leaf,.sl 1 (aj (bP seed leaf m 18)),.own 1 (aj (cX seed leaf h))],ai 0]):=by
 have hb:¬bQ (h:Int):=by unfold bQ;omega
 have hp:2^h≤16:=Nat.pow_le_pow_right (by decide) hh
 have ho:¬((leaf:Int)<0∨((2^h:Nat):Int)≤leaf):=ah
 refine zO Tryz.func51 48<|zq<|zS<|zP 1 [yH ([(1,yV (ao (decide (bQ (↑h:Int))))),(5,{av:=some (ao (decide ((↑leaf:Int)<0∨(↑((2:Nat)^h):Int)≤(↑leaf:Int)))),g:=false}),(6,{b:=false})]++yg [3,4])] [.aa [19,9,8,6,5,0,1,2,3] [8,6,5]] ([yI (gQ ((↑h:Int)))]++yM 3 (yF (bQ (↑h:Int)))++ [yI (il ((↑leaf:Int)) h hh),yF (bQ (↑h:Int))])<|dK 19 ((↑leaf:Int)<0∨(↑((2:Nat)^h):Int)≤(↑leaf:Int))<|a8<|zS<|FM 7 [6] [(4,yV (AV.own 1 (aj (bP seed (↑leaf:Int) m 18))))] [yI (vL seed ((↑leaf:Int)) m),yB (lC (aj (bP seed (↑leaf:Int) m 18))) (gg _),yR (ai ↑leaf),yR (aw seed),yR (ai ↑leaf),yR (aw m),yR (AV.sl 1 (aj (bP seed (↑leaf:Int) m 18))),yI (vL seed ((↑leaf:Int)) m),yB (lC (aj (bP seed (↑leaf:Int) m 18))) (gg _),yR (AV.agg [ai ↑leaf,AV.sl 1 (aj (bP seed (↑leaf:Int) m 18)),AV.nil]),yL 3 3]<|ak<|a7.su [.aa [10,19,9,8,6,5,0,1,2,3] [10,8,6,5]] bH<|zS<|zP 1 [yH [(2,{av:=some (AV.lu 142 [AV.ptr [ai ↑h] 0,AV.ptr [aw seed] 0]),b:=false})]] [.aa [29,10,19,9,8,6,5,0,1,2,3] [10,8,6,5]] [yI (BN seed ((↑h:Int)))]<|zB 0 ?_
 refine a7.Mn bH _ _ (zI seed h hh) bH bH bH [(5,1000000000005),(6,1000000000006),(8,1000000000008),(10,1000000000010)] bH [.sl 1 (aj (bP seed leaf m 18))]
  (yQ seed h m) (fun vs i=>qt seed h leaf (.val (vs.headD default)) i) ⟨yQ seed h m,qt seed h leaf (.sl 1 (aj (bP seed leaf m 18))) (h+1)⟩
  (fun Z w0 a w φ hs=>?_) (fun vs _=>by kernel_rfl) (fun _=>by kernel_rfl) bH (fun vs i _ _=>⟨dP (iu rfl) (dP (iu rfl) (dP (iu rfl) (dP (iu rfl) (dP (p8 _) uU)))),by kernel_rfl⟩) (fun vs i hv hi=>?_) (fun vs hv=>?_) ?_
 ·obtain ⟨iy,h1⟩:=(zW [.aa [29,10,9,8,6,5,0,3] [1000000000005,1000000000006,1000000000008,1000000000010]]) Z w0 48 a w ⟨φ,hs⟩
  exact Gs seed h leaf m _ Z w0 48 a w iy h1
 ·obtain ⟨v,rfl⟩:=List.length_eq_one_iff.1 hv
  refine a7.QH (AS.mk ([(31,.sl 1 (aj (kD seed h i))),(30,ai (i:Int))]++yQ seed h m) [(1000000000005,⟨1,false,true,[ai (h:Int)]⟩),(1000000000006,⟨1,false,true,[ai (leaf:Int)]⟩),(1000000000008,⟨1,false,true,[ai 0,.nil,.nil]⟩),(1000000000010,⟨1,false,true,[ai (leaf:Int),.val v,.ref 49]⟩),(49,⟨1,true,false,aj (cX seed leaf (min i h))⟩)]) bH ?_
  rw [show min i h=i by omega]
  refine a7.QH (AS.mk [(31,.sl 1 (aj (kD seed h i))),(30,ai (i:Int)),(29,.lu 142 [.ptr [ai (h:Int)] 0,.ptr [aw seed] 0]),(10,.addr 1000000000010 0),(9,ai 0),(8,.addr 1000000000008 0),(6,.addr 1000000000006 0),(5,.addr 1000000000005 0),(0,aw seed),(3,aw m)] [(1000000000005,⟨1,false,true,[ai (h:Int)]⟩),(1000000000006,⟨1,false,true,[ai (leaf:Int)]⟩),(1000000000008,⟨1,false,true,[ai 0,.nil,.nil]⟩),(1000000000010,⟨1,false,true,[ai (leaf:Int),.val v,.ref 49]⟩),(49,⟨1,true,false,aj (cX seed leaf i)⟩)]) bH<|zq<|zX {} []<|ak<|zB 1<|zS<|zP 1 [{}] [.aa [34,12,11,31,30,29,10,9,8,6,5,0,3] [1000000000005,1000000000006,1000000000008,1000000000010,49]] [] (a7.I0 (x:=.tmp 34) (u:=(↑i:Int)) (v:=(↑h:Int)) bH bH (fun g=>?_) (fun g=>?_))
  ·have e:i=h:=ah
   subst e
   refine zE 0<|aY<|OP bH ?_
   refine ⟨qt seed i leaf (.val v) (i+1),⟨yQ seed i m,qt seed i leaf (.sl 1 (aj (bP seed leaf m 18))) (i+1)⟩,dP (iu rfl) (dP (iu rfl) (dP (iu rfl) (dP (iu rfl) (dP (p8 _) uU)))),by kernel_rfl,
    bN.of [.aa [] [1000000000005,1000000000006,1000000000008,1000000000010,49]] (s1:=AS.mk [] [(1000000000005,⟨1,false,true,[ai (i:Int)]⟩),(1000000000006,⟨1,false,true,[ai (leaf:Int)]⟩),(1000000000008,⟨1,false,true,[ai 0,.nil,.nil]⟩),(1000000000010,⟨1,false,true,[ai (leaf:Int),.val v,.ref 49]⟩),(49,⟨1,true,false,aj (cX seed leaf i)⟩)]) bH (by unfold qt;rw [show min (i+1) i=i by omega]),yP seed i leaf m _ (i+1) v,bm (ak ?_)⟩
   refine a7.QH (AS.mk [(29,.lu 142 [.ptr [ai (i:Int)] 0,.ptr [aw seed] 0]),(10,.addr 10 0),(9,ai 0),(8,.addr 8 0),(6,.addr 6 0),(5,.addr 5 0),(0,aw seed),(3,aw m)] [(5,⟨1,false,true,[ai (i:Int)]⟩),(6,⟨1,false,true,[ai (leaf:Int)]⟩),(8,⟨1,false,true,[ai 0,.nil,.nil]⟩),(10,⟨1,false,true,[ai (leaf:Int),.sl 1 (aj (bP seed leaf m 18)),.ref 49]⟩),(49,⟨1,true,false,aj (cX seed leaf (min (i+1) i))⟩)]) bH ?_
   rw [show min (i+1) i=i by omega]
   refine a7.rE 1 [{}] [.aa [9,29,10,8,6,5,0,3] [8,5,6,10,49]] bH (s':=AS.mk [(9,ai 0),(29,AV.lu 142 [AV.ptr [ai ↑i] 0,AV.ptr [aw seed] 0]),(10,AV.addr 10 0),(8,AV.addr 8 0),(6,AV.addr 6 0),(5,AV.addr 5 0),(0,aw seed),(3,aw m)] [(8,Row.mk 1 false true [ai ↑leaf,AV.sl 1 (aj (bP seed (↑leaf:Int) m 18)),AV.ref 49]),(5,Row.mk 1 false true [ai ↑i]),(6,Row.mk 1 false true [ai ↑leaf]),(10,Row.mk 1 false true [ai ↑leaf,AV.sl 1 (aj (bP seed (↑leaf:Int) m 18)),AV.ref 49]),(49,Row.mk 1 true false (aj (cX seed leaf i)))]) (C:=[3≤3]) bH ⟨ah,trivial⟩<|zR (cE)
  ·have Ad:i≤4:=ah
   have hs:=vM leaf i Ad
   have hle:leaf/2^i≤leaf:=Nat.div_le_self ..
   have hq:leaf/2^i<16:=ah
   have hx:=C6 _ hq
   have em:2^(h-i)=2*2^(h-(i+1)):=by rw [show h-i=h-(i+1)+1 by omega,Nat.pow_succ,Nat.mul_comm]
   have Uy:2^(h-(i+1))≤8:=Nat.le_trans (Nat.pow_le_pow_right (by decide) (by omega:h-(i+1)≤3)) (by decide)
   have hdiv:leaf/2^i<2^(h-i):=by
    rw [Nat.div_lt_iff_lt_mul (Nat.two_pow_pos _),←Nat.pow_add,show h-i+i=h by omega];exact hl
   have FP:leaf/2^i^^^1<2^(h-i):=by rw [em];exact F7 _ _ Uy ah
   have ix:=pD seed h i _ FP
   have sI:=pC seed h i
   have ep:=tL seed leaf i
   have pJ:=qD seed leaf i
   have BV:min (i+1) h=i+1:=ah
   generalize leaf/2^i^^^1=x at *
   generalize leaf/2^i=q at *
   generalize kD seed h i=L at *
   generalize 2^(h-i)=c at *
   refine a8<|zX ({hs:=[(5,yV (ai ↑q)),(6,yV (ai ↑x)),(7,{k:=x}),(8,yV (aw (L.getD x 0))),(9,yV (AV.arr (aj [L.getD x 0]))),(10,yV (AV.arr (aj (cX seed leaf i++ [L.getD x 0]))))],T:=10}) [yI (yc hs),yO ((0:Int)≤(↑i:Int)),yI (yc hx),yR (↑x:Int),yB (x<(aj L).length) (by simp only [aD];omega),yB ((aj L)[x]?=some (aw (L.getD x 0))) (eG ah),yR [aw (L.getD x 0)],yB (aj (cX seed leaf i)++aj [L.getD x 0]=aj (cX seed leaf i++ [L.getD x 0])) (kn _ _),yB (((aj (cX seed leaf i)).length+1)*8≤140737488355328) (by simp only [aD];omega),yL 3 3]<|aM ?_
   exact bN.of [.vS 45 49,.aa [] [1000000000005,1000000000006,1000000000008,1000000000010,49]] (s1:=AS.mk [] [(1000000000005,⟨1,false,true,[ai (h:Int)]⟩),(1000000000006,⟨1,false,true,[ai (leaf:Int)]⟩),(1000000000008,⟨1,false,true,[ai 0,.nil,.nil]⟩),(1000000000010,⟨1,false,true,[ai (leaf:Int),.val v,.ref 49]⟩),(49,⟨1,true,false,aj (cX seed leaf i++ [L.getD x 0])⟩)]) bH (by unfold qt;rw [BV,ep,ix];rfl)
 ·obtain ⟨v,rfl⟩:=List.length_eq_one_iff.1 hv
  exact yP seed h leaf m _ (h+1) v
 ·refine aM (ak ?_)
  refine a7.QH (AS.mk [(29,.lu 142 [.ptr [ai (h:Int)] 0,.ptr [aw seed] 0]),(10,.addr 10 0),(9,ai 0),(8,.addr 8 0),(6,.addr 6 0),(5,.addr 5 0),(0,aw seed),(3,aw m)] [(5,⟨1,false,true,[ai (h:Int)]⟩),(6,⟨1,false,true,[ai (leaf:Int)]⟩),(8,⟨1,false,true,[ai 0,.nil,.nil]⟩),(10,⟨1,false,true,[ai (leaf:Int),.sl 1 (aj (bP seed leaf m 18)),.ref 49]⟩),(49,⟨1,true,false,aj (cX seed leaf (min (h+1) h))⟩)]) bH ?_
  rw [show min (h+1) h=h by omega]
  refine zP 1 [{}] [.aa [9,29,10,8,6,5,0,3] [8,5,6,10,49]] [yL 3 3]<|zR (cE)
theorem Gp (seed:UInt64) (h leaf:Int) (m:UInt64):bK Tryz.prog 51 [aw seed,ai h,ai leaf,aw m] (.br [.agg [ai (oA h leaf),.sl 1 (aj (nZ seed h leaf m)),.own 1 (aj (nY seed h leaf))],ai (vN h leaf)]):=by
 by_cases fT:jK h leaf
 ·have e1:vN h leaf=9:=if_pos fT
  have e2:oA h leaf=0:=if_pos fT
  have e3:nZ seed h leaf m= []:=if_pos fT
  have e4:nY seed h leaf= []:=if_pos fT
  rw [e1,e2,e3,e4]
  exact Gq seed h leaf m fT
 ·have e1:vN h leaf=0:=if_neg fT
  have e2:oA h leaf=leaf:=if_neg fT
  have e3:nZ seed h leaf m=bP seed leaf m 18:=if_neg fT
  have e4:nY seed h leaf=cX seed leaf.toNat h.toNat:=if_neg fT
  rw [e1,e2,e3,e4]
  unfold jK bQ at fT
  have va:0≤h∧h≤4∧0≤leaf:=ah
  obtain ⟨k,rfl⟩:=Int.eq_ofNat_of_zero_le va.1
  obtain ⟨i,rfl⟩:=Int.eq_ofNat_of_zero_le va.2.2
  rw [Int.toNat_natCast,Int.toNat_natCast]
  rw [Int.toNat_natCast] at fT
  exact JP seed k i m ah ah
def gn (leaf:Nat) (P:List UInt64) (x:UInt64):Nat->UInt64
 | 0=>x
 | k+1=>if leaf/2^k%2=0 then jH ((k+1:Nat):Int) (gn leaf P x k) (P.getD k 0) else jH ((k+1:Nat):Int) (P.getD k 0) (gn leaf P x k)
def nX (h:Int) (r m:UInt64) (leaf:Int) (C P:List UInt64):Int :=
 if jK h leaf then 9 else if C.length≠18∨(P.length:Int)≠h then 4 else if gn leaf.toNat P (combine leaf (fp leaf m C 18)) h.toNat=r then 0 else 15
theorem Lf (q:Nat) (hq:q<16):IntKind.i64.wrap ((BitVec.ofInt IntKind.i64.bits (q:Int)&&&BitVec.ofInt IntKind.i64.bits 1).toNat:Nat)=((q%2:Nat):Int):=by
 have key:∀q:Fin 16,IntKind.i64.wrap ((BitVec.ofInt IntKind.i64.bits ((q.val:Nat):Int)&&&BitVec.ofInt IntKind.i64.bits 1).toNat:Nat)=((q.val%2:Nat):Int):=by decide +kernel
 exact key ⟨q,hq⟩
theorem Be (h:Int) (r m:UInt64) (leaf:Int) (C P:List UInt64):bK Tryz.prog 104 [.agg [ai h,aw r],aw m,.agg [ai leaf,.sl 1 (aj C),.sl 1 (aj P)]] (ai (nX h r m leaf C P)):=by
 by_cases fT:jK h leaf
 ·have e1:nX h r m leaf C P=9:=if_pos fT
  rw [e1]
  unfold jK at fT
  by_cases hb:bQ h
  ·refine zO Tryz.func104 74<|zq<|zS<|zP 1 [yH [(2,yV (ao (decide (bQ h))))]] [.aa [20,6,5,3,0,1,2] [5,3]] ([yI (gQ h)]++yM 6 (yT (bQ h)))<|zT 20<|zq<|dW (cE)
  have va:0≤h∧h≤4:=by unfold bQ at hb;omega
  obtain ⟨k,rfl⟩:=Int.eq_ofNat_of_zero_le va.1
  rw [Int.toNat_natCast] at fT
  have ho:leaf<0∨((2^k:Nat):Int)≤leaf:=fT.resolve_left hb
  have hk:k≤4:=ah
  refine zO Tryz.func104 74<|zq<|zS<|zP 1 [yH ([(2,yV (ao (decide (bQ (↑k:Int))))),(8,{av:=some (ao (decide (leaf<0∨(↑((2:Nat)^k):Int)≤leaf))),g:=false}),(9,{b:=false})]++yg [4,5,6,7])] [.aa [20,6,5,3,0,1,2] [5,3]] ([yI (gQ ((↑k:Int)))]++yM 5 (yF (bQ (↑k:Int)))++ [yI (il leaf k hk),yF (bQ (↑k:Int))])<|jO 20 (leaf<0∨(↑((2:Nat)^k):Int)≤leaf)<|zq<|dW (cE)
 have hv:nX h r m leaf C P=if C.length≠18∨(P.length:Int)≠h then 4 else if gn leaf.toNat P (combine leaf (fp leaf m C 18)) h.toNat=r then 0 else 15:=if_neg fT
 unfold jK bQ at fT
 have va:0≤h∧h≤4∧0≤leaf:=ah
 obtain ⟨k,rfl⟩:=Int.eq_ofNat_of_zero_le va.1
 obtain ⟨i,rfl⟩:=Int.eq_ofNat_of_zero_le va.2.2
 rw [Int.toNat_natCast] at fT
 rw [Int.toNat_natCast,Int.toNat_natCast] at hv
 have hk:k≤4:=ah
 have hb:¬bQ (k:Int):=by unfold bQ;omega
 have ho:¬((i:Int)<0∨((2^k:Nat):Int)≤i):=ah
 have hp:2^k≤16:=Nat.pow_le_pow_right (by decide) hk
 rw [hv]
 by_cases hC:C.length=18
 case neg =>
  rw [if_pos (.inl hC)]
  refine zO Tryz.func104 74<|zq<|zS<|zP 1 [yH ([(2,yV (ao (decide (bQ (↑k:Int))))),(8,{av:=some (ao (decide ((↑i:Int)<0∨(↑((2:Nat)^k):Int)≤(↑i:Int)))),g:=false}),(9,{b:=false})]++yg [4,5,6,7])] [.aa [20,6,5,3,0,1,2] [5,3]] ([yI (gQ ((↑k:Int)))]++yM 5 (yF (bQ (↑k:Int)))++ [yI (il ((↑i:Int)) k hk),yF (bQ (↑k:Int))])<|dK 20 ((↑i:Int)<0∨(↑((2:Nat)^k):Int)≤(↑i:Int))<|a8<|zS<|zP 1 [yH [(2,{k:=C.length})]] [.aa [32,20,6,5,3,0,1,2] [5,3]] ([yI (aD C)]++yM 7 (yB (((↑C.length:Int) != (18:Int))=true) (by simp;omega)))<|zT 32<|zq<|dW (cE)
 by_cases hP:P.length=k
 case neg =>
  rw [if_pos (.inr ah)]
  refine zO Tryz.func104 74<|zq<|zS<|zP 1 [yH ([(2,yV (ao (decide (bQ (↑k:Int))))),(8,{av:=some (ao (decide ((↑i:Int)<0∨(↑((2:Nat)^k):Int)≤(↑i:Int)))),g:=false}),(9,{b:=false})]++yg [4,5,6,7])] [.aa [20,6,5,3,0,1,2] [5,3]] ([yI (gQ ((↑k:Int)))]++yM 5 (yF (bQ (↑k:Int)))++ [yI (il ((↑i:Int)) k hk),yF (bQ (↑k:Int))])<|dK 20 ((↑i:Int)<0∨(↑((2:Nat)^k):Int)≤(↑i:Int))<|a8<|zS<|zP 1 [yH ([(2,{k:=C.length}),(7,{k:=P.length,g:=false}),(11,{b:=false})]++yg [5,6,8,9,10])] [.aa [32,20,6,5,3,0,1,2] [5,3]] ([yI (aD C)]++yM 3 (yS (((↑C.length:Int) != (18:Int))=false))++ [yI (aD P)]++yM 4 (yS (((↑C.length:Int) != (18:Int))=false)))<|dQ 32 ((↑P.length:Int) != (↑k:Int)) (by simp;omega)<|zq<|dW (cE)
 rw [if_neg ah]
 have hr:zo i m C=combine i (fp i m C 18):=if_pos hC
 have he:ph C=0:=if_pos hC
 refine zO Tryz.func104 74<|zq<|zS<|zP 1 [yH ([(2,yV (ao (decide (bQ (↑k:Int))))),(8,{av:=some (ao (decide ((↑i:Int)<0∨(↑((2:Nat)^k):Int)≤(↑i:Int)))),g:=false}),(9,{b:=false})]++yg [4,5,6,7])] [.aa [20,6,5,3,0,1,2] [5,3]] ([yI (gQ ((↑k:Int)))]++yM 5 (yF (bQ (↑k:Int)))++ [yI (il ((↑i:Int)) k hk),yF (bQ (↑k:Int))])<|dK 20 ((↑i:Int)<0∨(↑((2:Nat)^k):Int)≤(↑i:Int))<|a8<|zS<|zP 1 [yH ([(2,{k:=C.length}),(7,{k:=P.length,g:=false}),(11,{b:=false})]++yg [5,6,8,9,10])] [.aa [32,20,6,5,3,0,1,2] [5,3]] ([yI (aD C)]++yM 3 (yS (((↑C.length:Int) != (18:Int))=false))++ [yI (aD P)]++yM 4 (yS (((↑C.length:Int) != (18:Int))=false)))<|bo 32 ((↑P.length:Int) != (↑k:Int)) (by simp_all)<|a8<|zP 1 [yH [(5,yV (AV.br [aw (zo (↑i:Int) m C),ai (ph C)]))]] [.aa [8,7,32,20,6,5,3,0,1,2] [5,3]] [yI (zn ((↑i:Int)) m C)]<|zS<|zq<|bo 43 (ph C != (0:Int)) (by simp_all)<|a8<|zS<|zP 1 [yH [(2,{k:=P.length})]] [.aa [48,47,46,43,8,7,32,20,6,5,3,0,1,2] [5,3]] [yI (aD P)]<|zB 0 (zL (fun (j:Nat)=>(⟨[(47,ai (↑P.length:Int)),(46,AV.sl 1 (aj P)),(43,ao (ph C != (0:Int))),(8,ai (ph C)),(32,ao ((↑P.length:Int) != (↑k:Int))),(20,ao (decide ((↑i:Int)<0∨(↑((2:Nat)^k):Int)≤(↑i:Int)))),(6,ai 0),(5,AV.addr 5 0),(3,AV.addr 3 0),(0,AV.agg [ai ↑k,aw r]),(1,aw m),(2,AV.agg [ai ↑i,AV.sl 1 (aj C),AV.sl 1 (aj P)]),(48,ai j),(7,aw (gn i P (combine i (fp i m C 18)) j))],[(5,⟨1,false,true,[ai ↑i,AV.sl 1 (aj C),AV.sl 1 (aj P)]⟩),(3,⟨1,false,true,[ai ↑k,aw r]⟩)]⟩:AS)) (fun j=>(j≤k)) (fun j=>(k-j)) (0) ?_ (e_ [.aa [47,46,43,8,32,20,6,5,3,0,1,2,48,7] [5,3]] [7] [] [yB (aw (zo (↑i:Int) m C)=aw (gn i P (combine (↑i:Int) (fp (↑i:Int) m C 18)) 0)) (congrArg aw hr)]) ?_)
 ·omega
 intro j hj
 refine a7.mW 1 [{}] bH (s':=AS.mk [(49,ao (decide ((↑j:Int)<(↑P.length:Int)))),(47,ai (↑P.length:Int)),(46,AV.sl 1 (aj P)),(43,ao (ph C != (0:Int))),(8,ai (ph C)),(32,ao ((↑P.length:Int) != (↑k:Int))),(20,ao (decide ((↑i:Int)<0∨(↑((2:Nat)^k):Int)≤(↑i:Int)))),(6,ai 0),(5,AV.addr 5 0),(3,AV.addr 3 0),(0,AV.agg [ai ↑k,aw r]),(1,aw m),(2,AV.agg [ai ↑i,AV.sl 1 (aj C),AV.sl 1 (aj P)]),(48,ai ↑j),(7,aw (gn i P (combine (↑i:Int) (fp (↑i:Int) m C 18)) j))] [(5,Row.mk 1 false true [ai ↑i,AV.sl 1 (aj C),AV.sl 1 (aj P)]),(3,Row.mk 1 false true [ai ↑k,aw r])]) (C:=[]) bH trivial<|zS (zD 49 ((↑j:Int)<(↑P.length:Int)) (fun g=>?_) (fun g=>?_))
 ·have hs:=vM i j ah
  have hle:i/2^j≤i:=Nat.div_le_self ..
  have hq:i/2^j<16:=ah
  have ha:=Lf _ hq
  have Qg:(0:Int)≤wv (u64 (j:Int)):=Int.natCast_nonneg _
  have Ur:IntKind.i64.wrap ((j:Int)+1)=((j+1:Nat):Int):=by rw [fj ah ah];omega
  have hc:gn i P (combine i (fp i m C 18)) (j+1)=if i/2^j%2=0 then jH ((j+1:Nat):Int) (gn i P (combine i (fp i m C 18)) j) (P.getD j 0) else jH ((j+1:Nat):Int) (P.getD j 0) (gn i P (combine i (fp i m C 18)) j):=rfl
  generalize i/2^j=q at *
  generalize hx:gn i P (combine i (fp i m C 18)) j=x at *
  by_cases h2:q%2=0
  ·rw [if_pos h2] at hc
   generalize q%2=q2 at *
   refine a8<|zS<|zB 1<|zP 2 [yH [(1,{k:=j}),(2,yV (aw (P.getD j 0)))],yH [(3,yV (ai ↑q)),(4,yV (ai ↑q2))]] [.aa [58,10,9,49,47,46,43,8,32,20,6,5,3,0,1,2,48,7] [5,3]] [yR (↑j:Int),yB (j<(aj P).length) (by simp only [aD];omega),yB ((aj P)[j]?=some (aw (P.getD j 0))) (eG ah),yI (yc hs),yO ((0:Int)≤(↑j:Int)),yI (yc ha)]<|dQ 58 ((↑q2:Int) == (0:Int)) fX<|zX (yH [(1,yV (ai (↑(j+1):Int))),(4,yV (aw (jH (↑(j+1):Int) x (P.getD j 0))))]) [yB (ai (IntKind.i64.wrap ((↑j:Int)+1))=ai (↑(j+1):Int)) (eZ ah ah),yI (oK (↑(j+1):Int) x (P.getD j 0))]<|aM<|ak<|a7.Qb {hs:=[(0,{av:=some (ai ((↑j:Int)+1))})]} (s':=AS.mk [(48,ai ((↑j:Int)+1)),(69,ai ((↑j:Int)+1)),(7,aw (jH (↑(j+1):Int) x (P.getD j 0))),(63,aw (jH (↑(j+1):Int) x (P.getD j 0))),(62,aw (P.getD j 0)),(61,aw x),(60,ai (↑(j+1):Int)),(59,ai ↑j),(58,ao ((↑q2:Int) == (0:Int))),(10,aw (P.getD j 0)),(9,ai ↑j),(49,ao (decide ((↑j:Int)<(↑P.length:Int)))),(47,ai (↑P.length:Int)),(46,AV.sl 1 (aj P)),(43,ao (ph C != (0:Int))),(8,ai (ph C)),(32,ao ((↑P.length:Int) != (↑k:Int))),(20,ao (decide ((↑i:Int)<0∨(↑((2:Nat)^k):Int)≤(↑i:Int)))),(6,ai 0),(5,AV.addr 5 0),(3,AV.addr 3 0),(0,AV.agg [ai ↑k,aw r]),(1,aw m),(2,AV.agg [ai ↑i,AV.sl 1 (aj C),AV.sl 1 (aj P)])] [(5,Row.mk 1 false true [ai ↑i,AV.sl 1 (aj C),AV.sl 1 (aj P)]),(3,Row.mk 1 false true [ai ↑k,aw r])]) (C:=[ai (IntKind.i64.wrap ((↑j:Int)+1))=ai ((↑j:Int)+1)]) bH ⟨(eZ ah ah),trivial⟩ (aI (j+1) ah ah (e_ [.aa [47,46,43,8,32,20,6,5,3,0,1,2,48,7] [5,3]] [7] [] [yB (aw (jH (↑(j+1):Int) x (P.getD j 0))=aw (gn i P (combine (↑i:Int) (fp (↑i:Int) m C 18)) (j+1))) (by rw [hc])]))
  ·rw [if_neg h2] at hc
   generalize q%2=q2 at *
   refine a8<|zS<|zB 1<|zP 2 [yH [(1,{k:=j}),(2,yV (aw (P.getD j 0)))],yH [(3,yV (ai ↑q)),(4,yV (ai ↑q2))]] [.aa [58,10,9,49,47,46,43,8,32,20,6,5,3,0,1,2,48,7] [5,3]] [yR (↑j:Int),yB (j<(aj P).length) (by simp only [aD];omega),yB ((aj P)[j]?=some (aw (P.getD j 0))) (eG ah),yI (yc hs),yO ((0:Int)≤(↑j:Int)),yI (yc ha)]<|bo 58 ((↑q2:Int) == (0:Int)) bR<|zX (yH [(1,yV (ai (↑(j+1):Int))),(4,yV (aw (jH (↑(j+1):Int) (P.getD j 0) x)))]) [yB (ai (IntKind.i64.wrap ((↑j:Int)+1))=ai (↑(j+1):Int)) (eZ ah ah),yI (oK (↑(j+1):Int) (P.getD j 0) x)]<|aM<|ak<|zX (yH [(0,yV (ai ((↑j:Int)+1)))]) [yN ((↑j:Int)+1)] (aI (j+1) ah ah (e_ [.aa [47,46,43,8,32,20,6,5,3,0,1,2,48,7] [5,3]] [7] [] [yB (aw (jH (↑(j+1):Int) (P.getD j 0) x)=aw (gn i P (combine (↑i:Int) (fp (↑i:Int) m C 18)) (j+1))) (by rw [hc])]))
 ·have e:j=k:=ah
  subst e
  by_cases lh:gn i P (combine i (fp i m C 18)) j=r
  ·rw [if_pos lh]
   refine zE 0<|aY<|aN<|bm<|ak<|zS<|zP 1 [yH [(3,yV (ao (gn i P (combine (↑i:Int) (fp (↑i:Int) m C 18)) j != r)))]] [.aa [73,49,47,46,43,8,32,20,6,5,3,0,1,2,48,7] [5,3]] [yI (cU (gn i P (combine (↑i:Int) (fp (↑i:Int) m C 18)) j) r)]<|bo 73 (gn i P (combine (↑i:Int) (fp (↑i:Int) m C 18)) j != r) (by simp_all)<|a8<|zq<|zR (cE)
  ·rw [if_neg lh]
   refine zE 0<|aY<|aN<|bm<|ak<|zS<|zP 1 [yH [(3,yV (ao (gn i P (combine (↑i:Int) (fp (↑i:Int) m C 18)) j != r)))]] [.aa [73,49,47,46,43,8,32,20,6,5,3,0,1,2,48,7] [5,3]] [yI (cU (gn i P (combine (↑i:Int) (fp (↑i:Int) m C 18)) j) r)]<|dQ 73 (gn i P (combine (↑i:Int) (fp (↑i:Int) m C 18)) j != r) (by simp_all)<|zq<|dW (cE)
instance:Inhabited fW:=⟨⟨[],0,[],[]⟩⟩
def NQ (a b:List UInt8):Bool:=Op.bytesLess (⟨a.toArray⟩:ByteArray).toList (⟨b.toArray⟩:ByteArray).toList
def fJ (leaf:Int):UInt64:=(1:UInt64)<<<UInt64.ofNat leaf.toNat
def Kc (l:List Mem) (n:List UInt8):Mem:=l.getD (eS l n).toNat default
def jt (g:fL) (w:UInt64) (l:List fW) (i:Nat):Int :=
 if 0<i∧Hn (l.getD i default).name (l.getD (i-1) default).name=true then 7 else if eS g.al (l.getD i default).name<0 then 11
 else if nX (Kc g.al (l.getD i default).name).h (Kc g.al (l.getD i default).name).r w (l.getD i default).leaf (l.getD i default).kM (l.getD i default).path≠0 then nX (Kc g.al (l.getD i default).name).h (Kc g.al (l.getD i default).name).r w (l.getD i default).leaf (l.getD i default).kM (l.getD i default).path
 else if (Kc g.al (l.getD i default).name).used&&&fJ (l.getD i default).leaf≠0 then 37 else 0
def iv (g:fL) (w:UInt64) (l:List fW):Int:=if ff (jt g w l) l.length≠0 then ff (jt g w l) l.length else if (l.length:Int)<g.bB then 41 else 0
def mJ (l:List Mem) (k:Nat):List Mem:=l.take k++l.drop (k+1)
def B2 (g:fL) (l:List (List UInt8)) (i:Nat):Int:=if eS g.al (l.getD i default)<0 then 11 else 0
def j9 (g:fL) (e:eK):Int :=
 if e.kind=1 then (if 0≤eS g.al e.name then 10 else if 8≤g.al.length then 12 else 0)
 else if e.kind=2 then (if eS g.al e.name<0 then 11 else if (g.al.length:Int)-1<g.bB then 41 else 0)
 else if e.kind=3 then (if (g.al.length:Int)<e.bB∨2*e.bB≤g.al.length then 41 else 0)
 else if e.kind=4 then (if 8≤g.aF.length then 12 else if uB g.aF e.dep.cm<g.aF.length then 10 else ff (B2 g e.dep.ae) e.dep.ae.length)
 else if uB g.aF e.cm=g.aF.length then 11 else if (g.aF.getD (uB g.aF e.cm) default).target≠0 then 18 else 0
def qv (l:List nC) (k:Nat) (t:UInt64):List nC:=l.set k {l.getD k default with target:=t}
def dt (g:fL) (e:eK):fL :=
 if j9 g e≠0 then g else if e.kind=1 then {g with bB:=if 2*g.bB≤g.al.length+1 then g.bB+1 else g.bB,al:=g.al++ [⟨e.name,e.kh,e.kr,0⟩]}
 else if e.kind=2 then {g with al:=mJ g.al (eS g.al e.name).toNat} else if e.kind=3 then {g with bB:=e.bB}
 else if e.kind=4 then {g with aF:=g.aF++ [e.dep]} else {g with aF:=qv g.aF (uB g.aF e.cm) e.target}
def k7 (l:List Mem) (v:fW):List Mem:=if eS l v.name<0 then l else l.set (eS l v.name).toNat {Kc l v.name with used:=(Kc l v.name).used|||fJ v.leaf}
def i3 (l:List Mem) (vs:List fW):List Mem:=vs.foldl k7 l
def gG (g:fL) (e:eK):Int:=if eY e≠0 then eY e else if e.aC≠g.aC+1∨e.prev≠g.head then 42 else if iv g (dJ e) e.ar≠0 then iv g (dJ e) e.ar else j9 g e
def jL (g:fL) (e:eK):fL:=if gG g e≠0 then g else ⟨e.aC,dJ e,(dt g e).bB,i3 (dt g e).al e.ar,(dt g e).aF⟩
def zu (l:List fW) (n:List UInt8):Nat:=(l.takeWhile fun v=>NQ v.name n).length
def IG (l:List fW) (n:List UInt8):Bool:=l.any fun v=>v.name == n
def lz (e:eK) (n:List UInt8) (h leaf:Int):Int:=if eY e≠0 then eY e else if IG e.ar n=true then 10 else vN h leaf
def z1 (l:List fW) (v:fW):List fW:=l.take (zu l v.name)++ [v]++l.drop (zu l v.name)
def tc (e:eK) (n:List UInt8) (seed:UInt64) (h leaf:Int):eK :=
 if lz e n h leaf≠0 then ⟨0,0,0,[],0,0,0,⟨0,0,[],[],[],0,0⟩,0,0,[]⟩ else {e with ar:=z1 e.ar ⟨n,oA h leaf,nZ seed h leaf (dJ e),nY seed h leaf⟩}
theorem yy {h:Int} {r m:UInt64} {leaf:Int} {C P:List UInt64} (e:nX h r m leaf C P=0):0≤leaf∧leaf<16:=by
 have nb:¬jK h leaf:=by
  intro q
  unfold nX at e
  rw [if_pos q] at e;omega
 unfold jK bQ at nb
 have:2^h.toNat≤2^4:=Nat.pow_le_pow_right (by decide) ah
 omega
theorem fP (l:List Mem) (n:List UInt8):eS l n= -1∨ ∃k:Nat,eS l n=k∧k<l.length∧(l.getD k default).name=n:=by
 unfold eS
 split
 ·rename_i h
  obtain ⟨m,hm,e⟩:=h
  have cW:=List.findIdx_lt_length_of_exists (p:=fun m:Mem=>m.name == n) ⟨m,hm,by simp [e]⟩
  refine .inr ⟨_,rfl,cW,?_⟩
  have:=List.findIdx_getElem (p:=fun m:Mem=>m.name == n) (w:=cW)
  rw [List.getD_eq_getElem?_getD,List.getElem?_eq_getElem cW]
  simpa using this
 ·exact .inl rfl
def JN (es:List (Nat×Nat)) (j:Nat):AV->AV
 | .nil=>(match look es j with|some e=>.sl e []|none=>.nil)
 | x=>x
theorem JM (es:List (Nat×Nat)) (j:Nat) (x:AV):JN es j x=x∨x= .nil∧ ∃e,JN es j x= .sl e []:=by
 cases x with
 | nil =>
  cases h:look es j with
  | none=>exact .inl (by show (match look es j with|some e=>AV.sl e []|none=>.nil)=_;rw [h])
  | some e=>exact .inr ⟨rfl,e,by show (match look es j with|some e=>AV.sl e []|none=>.nil)=_;rw [h]⟩
 | _=>exact .inl rfl
def JO (es:List (Nat×Nat)):List AV->Nat->List AV
 | [],_=>[]
 | x::l,j=>JN es j x::JO es l (j+1)
def Qa (es:List (Nat×Nat)):AV->AV
 | .agg cs=>.agg (JO es cs 0)
 | x=>x
theorem wQ (es:List (Nat×Nat)):∀(l:List AV) (j:Nat),(JO es l j).length=l.length
 | [],_=>rfl
 | _::l,j=>congrArg (· +1) (wQ es l (j+1))
theorem Bk (es:List (Nat×Nat)):∀(l:List AV) (j i:Nat) (y:AV),(JO es l j)[i]?=some y-> ∃x,l[i]?=some x∧(y=x∨x= .nil∧ ∃e,y= .sl e [])
 | [],_,_,_,h=>by cases h
 | x::l,j,0,y,h=>by
  have h:some (JN es j x)=some y:=h
  injection h with h
  subst h
  exact ⟨x,rfl,JM es j x⟩
 | x::l,j,i+1,y,h=>Bk es l (j+1) i y h
theorem cp.Qa (es:List (Nat×Nat)) {S:Nat->Prop} {w:World} {v:Value} {x:AV} (h:cp S w v x):cp S w v (Qa es x):=by
 cases h with
 | agg vs cs hl h =>
  refine .agg vs _ (by rw [hl,wQ]) fun j v c hv hc=>?_
  obtain ⟨x,hx,e⟩:=Bk es cs 0 j c hc
  have hr:=h j v x hv hx
  rcases e with rfl|⟨rfl,e,rfl⟩
  ·exact hr
  ·cases hr;exact iD none 0 0 e (by simp) (Nat.le_refl _) (by simp)
 | nil=>exact .nil
 | val v=>exact .val v
 | br vs cs hl h=>exact .br vs cs hl h
 | arr vs cs hl h=>exact .arr vs cs hl h
 | sl A n c e us row hl hn hc hm ha h=>exact .sl A n c e us row hl hn hc hm ha h
 | o8 A n e us row hl hn hm ha h=>exact .o8 A n e us row hl hn hm ha h
 | ptr ad us row off hl hs ha h=>exact .ptr ad us row off hl hs ha h
 | lu f vs cs hl h=>exact .lu f vs cs hl h
theorem bK.G6 (es:List (Nat×Nat)) {P:Program} {f:FuncId} {args:List AV} {r:AV} (h:bK P f (args.map (Qa es)) r):bK P f args r:=by
 intro w S vs jR hS hv hr
 refine h w S vs jR hS (by rw [List.length_map];exact hv) fun j v y T_ hy=>?_
 rw [List.getElem?_map] at hy
 cases hx:args[j]? with
 | none=>rw [hx] at hy;cases hy
 | some x=>rw [hx] at hy;cases hy;exact (hr j v x T_ hx).Qa es
theorem bN.QZ {s:AS} (id:Nat) (es:List (Nat×Nat)) {r:Row} (hr:look s.H id=some r):bN s ⟨s.F,(id,⟨r.e,r.pure,r.full,JO es r.cells 0⟩)::cF s.H id⟩:=by
 intro S0 w0 n a w ⟨φ,hs⟩
 have hl:=wQ es r.cells 0
 have hI:az ((id,(⟨r.e,r.pure,r.full,JO es r.cells 0⟩:Row))::cF s.H id) φ=az s.H φ:=by
  funext i
  unfold az
  rw [aB]
  by_cases e1:id=i
  ·subst e1;rw [if_pos rfl,hr];show some (r.e,(JO es r.cells 0).length,φ id)=_;rw [hl];rfl
  ·rw [if_neg e1,bC,if_neg e1]
 refine ⟨φ,hs.jF,hs.jJ,hs.cM,fun i av hi=>by rw [hI];exact hs.ct i av hi,fun i q hq=>?_,fun i hi=>?_,hs.inj,hs.cL,hs.apart,hs.new⟩
 ·rw [hI]
  rw [aB] at hq
  by_cases e1:id=i
  ·subst e1
   rw [if_pos rfl] at hq;injection hq with hq;subst hq
   have aK:=hs.rows id r hr
   unfold bJ at aK ⊢
   cases hg:φ id with
   | none=>rw [hg] at aK;exact List.eq_nil_of_length_eq_zero (by rw [hl,aK];rfl)
   | some g =>
    rw [hg] at aK
    obtain ⟨cur,te,fr,u1,u2,u3,u4,u5⟩:=aK
    refine ⟨cur,te,fr,u1,u2,by rw [hl];exact u3,fun h=>by rw [hl];exact u4 h,fun k u x hu hx=>?_⟩
    obtain ⟨y,hy,e⟩:=Bk es r.cells 0 k x hx
    have:=u5 k u y hu hy
    unfold a_ at this ⊢
    rcases e with rfl|⟨rfl,e2,rfl⟩
    ·exact this
    ·have hv:u= .slice none 0 0:=by
      cases hp:r.pure with
      | true=>rw [hp] at this;cases this;rfl
      | false =>
       rw [hp] at this
       have this:Den _ _ _ u .nil:=this
       cases this with
       | rep h=>cases h;rfl
     subst hv
     show match r.pure with|true=>cp _ _ _ _|false=>Den _ _ _ _ _
     cases r.pure with
     | true=>exact iD none 0 0 e2 (by simp) (Nat.le_refl _) (by simp)
     | false=>exact .rep (iD none 0 0 e2 (by simp) (Nat.le_refl _) (by simp))
  ·rw [if_neg e1,bC,if_neg e1] at hq
   exact hs.rows i q hq
 ·rw [aB] at hi
  by_cases e1:id=i
  ·subst e1;rw [if_pos rfl] at hi;cases hi
  ·rw [if_neg e1,bC,if_neg e1] at hi;exact hs.only i hi
def ED (s:AS) (id:Nat):Row:=match look s.H id with|some r=>r|none=>⟨0,true,false,[]⟩
theorem bN.Mu {s:AS} (id:Nat) (es:List (Nat×Nat)) (hr:look s.H id=some (ED s id)):bN s ⟨s.F,(id,⟨(ED s id).e,(ED s id).pure,(ED s id).full,JO es (ED s id).cells 0⟩)::cF s.H id⟩:=bN.QZ id es hr
theorem Mx {ι:Type} {Inv:ι->Prop} {J:ι->AS} {s s1:AS} (hw:bN s s1) (h:∃x,Inv x∧bN s1 (J x)):∃x,Inv x∧bN s (J x):=by
 obtain ⟨x,hx,h⟩:=h
 exact ⟨x,hx,fun S0 w0 n a w hs=>h S0 w0 n a w (hw S0 w0 n a w hs)⟩
end Go.Proofs.YtjgbhhnghedgdaaGreatDoor
