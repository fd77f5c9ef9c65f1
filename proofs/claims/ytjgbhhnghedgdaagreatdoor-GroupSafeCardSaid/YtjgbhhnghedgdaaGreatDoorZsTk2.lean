import Derived.Test.YtjgbhhnghedgdaaGreatDoorZsCb3
set_option linter.all false
namespace Go.Proofs.YtjgbhhnghedgdaaGreatDoor
open Go.RowKit
set_option maxRecDepth 100000
set_option maxHeartbeats 4000000
def OG (h:Int):Int:=if bQ h then 9 else 0
def Jn (h:Int):Int:=if bQ h then 0 else h
def Jm (seed:UInt64) (h:Int):UInt64:=if bQ h then 0 else fM seed h.toNat 0
theorem vh (seed:UInt64) (h:Int):bK Tryz.prog 85 [aw seed,ai h] (.br [.agg [ai (Jn h),aw (Jm seed h)],ai (OG h)]):=by
 by_cases hb:bQ h
 ·have e1:OG h=9:=if_pos hb
  have e2:Jn h=0:=if_pos hb
  have e3:Jm seed h=0:=if_pos hb
  refine zO Tryz.func85 15<|zq<|zS<|zP 1 [yH [(1,yV (ao (!decide (bQ h))))]] [.aa [8,5,4,0,1] [4]] [yI (dO h)]<|dQ 8 (!!decide (bQ h)) (by simp_all)<|a7.rE 1 [{}] [.aa [5,8,4,0,1] [4]] bH (s':=AS.mk [(5,ai 9),(8,ao (!!decide (bQ h))),(4,AV.addr 4 0),(0,aw seed),(1,ai h)] [(4,Row.mk 1 false true [ai 0,eh])]) (C:=[2≤2]) bH ⟨ah,trivial⟩<|dW (zV [yJ 0 (Jn h) (by rw [e2]),yK 0 (wv (Jm seed h)) (by rw [e3];rfl),yJ 9 (OG h) (by rw [e1])])
 ·have e1:OG h=0:=if_neg hb
  have e2:Jn h=h:=if_neg hb
  have e3:Jm seed h=fM seed h.toNat 0:=if_neg hb
  have va:0≤h∧h≤4:=by unfold bQ at hb;omega
  rw [e1,e2,e3]
  obtain ⟨k,rfl⟩:=Int.eq_ofNat_of_zero_le va.1
  have hn:=rG seed k 0 ah (Nat.two_pow_pos _)
  rw [Int.toNat_natCast]
  generalize fM seed k 0=r at *
  refine zO Tryz.func85 15<|zq<|zS<|zP 1 [yH [(1,yV (ao (!decide (bQ (↑k:Int)))))]] [.aa [8,5,4,0,1] [4]] [yI (dO ((↑k:Int)))]<|bo 8 (!!decide (bQ (↑k:Int))) (by simp_all)<|a8<|zP 1 [yH [(3,yV (aw r))]] [.aa [5,8,4,0,1] [4]] [yI hn,yL 2 2]<|zR (cE)
theorem il (leaf:Int) (h:Nat) (hh:h≤4):bK Tryz.prog 95 [ai leaf,ai h] (ao (decide (leaf<0∨((2^h:Nat):Int)≤leaf))):=by
 rcases (ah:h=0∨h=1∨h=2∨h=3∨h=4) with rfl|rfl|rfl|rfl|rfl
 ·by_cases h1:leaf<0
  ·refine zO Tryz.func95 13<|zP 2 [{},{}] [.aa [4,0,1] []] (yM 5 (yT (leaf<0)))<|zR (zV [yB (Value.bool true=Value.bool (decide (leaf<0∨(↑((2:Nat)^0):Int)≤leaf))) (by simp [h1])])
  ·refine zO Tryz.func95 13<|zP 2 [{},yH ([(7,{b:=false})]++yg [3,4,5,6])] [.aa [4,0,1] []] (yM 3 (yF (leaf<0))++ [yO ((0:Int)≤(↑(0:Nat):Int))]++yM 2 (yF (leaf<0)))<|zR (zV [yB (Value.bool (decide (leaf≥IntKind.i64.wrap ((1:Int)*(2:Int)^min (↑(0:Nat):Int).toNat IntKind.i64.bits)))=Value.bool (decide (leaf<0∨(↑((2:Nat)^0):Int)≤leaf))) (by simp [h1];rfl)])
 ·by_cases h1:leaf<0
  ·refine zO Tryz.func95 13<|zP 2 [{},{}] [.aa [4,0,1] []] (yM 5 (yT (leaf<0)))<|zR (zV [yB (Value.bool true=Value.bool (decide (leaf<0∨(↑((2:Nat)^1):Int)≤leaf))) (by simp [h1])])
  ·refine zO Tryz.func95 13<|zP 2 [{},yH ([(7,{b:=false})]++yg [3,4,5,6])] [.aa [4,0,1] []] (yM 3 (yF (leaf<0))++ [yO ((0:Int)≤(↑(1:Nat):Int))]++yM 2 (yF (leaf<0)))<|zR (zV [yB (Value.bool (decide (leaf≥IntKind.i64.wrap ((1:Int)*(2:Int)^min (↑(1:Nat):Int).toNat IntKind.i64.bits)))=Value.bool (decide (leaf<0∨(↑((2:Nat)^1):Int)≤leaf))) (by simp [h1];rfl)])
 ·by_cases h1:leaf<0
  ·refine zO Tryz.func95 13<|zP 2 [{},{}] [.aa [4,0,1] []] (yM 5 (yT (leaf<0)))<|zR (zV [yB (Value.bool true=Value.bool (decide (leaf<0∨(↑((2:Nat)^2):Int)≤leaf))) (by simp [h1])])
  ·refine zO Tryz.func95 13<|zP 2 [{},yH ([(7,{b:=false})]++yg [3,4,5,6])] [.aa [4,0,1] []] (yM 3 (yF (leaf<0))++ [yO ((0:Int)≤(↑(2:Nat):Int))]++yM 2 (yF (leaf<0)))<|zR (zV [yB (Value.bool (decide (leaf≥IntKind.i64.wrap ((1:Int)*(2:Int)^min (↑(2:Nat):Int).toNat IntKind.i64.bits)))=Value.bool (decide (leaf<0∨(↑((2:Nat)^2):Int)≤leaf))) (by simp [h1];rfl)])
 ·by_cases h1:leaf<0
  ·refine zO Tryz.func95 13<|zP 2 [{},{}] [.aa [4,0,1] []] (yM 5 (yT (leaf<0)))<|zR (zV [yB (Value.bool true=Value.bool (decide (leaf<0∨(↑((2:Nat)^3):Int)≤leaf))) (by simp [h1])])
  ·refine zO Tryz.func95 13<|zP 2 [{},yH ([(7,{b:=false})]++yg [3,4,5,6])] [.aa [4,0,1] []] (yM 3 (yF (leaf<0))++ [yO ((0:Int)≤(↑(3:Nat):Int))]++yM 2 (yF (leaf<0)))<|zR (zV [yB (Value.bool (decide (leaf≥IntKind.i64.wrap ((1:Int)*(2:Int)^min (↑(3:Nat):Int).toNat IntKind.i64.bits)))=Value.bool (decide (leaf<0∨(↑((2:Nat)^3):Int)≤leaf))) (by simp [h1];rfl)])
 ·by_cases h1:leaf<0
  ·refine zO Tryz.func95 13<|zP 2 [{},{}] [.aa [4,0,1] []] (yM 5 (yT (leaf<0)))<|zR (zV [yB (Value.bool true=Value.bool (decide (leaf<0∨(↑((2:Nat)^4):Int)≤leaf))) (by simp [h1])])
  ·refine zO Tryz.func95 13<|zP 2 [{},yH ([(7,{b:=false})]++yg [3,4,5,6])] [.aa [4,0,1] []] (yM 3 (yF (leaf<0))++ [yO ((0:Int)≤(↑(4:Nat):Int))]++yM 2 (yF (leaf<0)))<|zR (zV [yB (Value.bool (decide (leaf≥IntKind.i64.wrap ((1:Int)*(2:Int)^min (↑(4:Nat):Int).toNat IntKind.i64.bits)))=Value.bool (decide (leaf<0∨(↑((2:Nat)^4):Int)≤leaf))) (by simp [h1];rfl)])
theorem Ki (seed:UInt64) (h:Int):bK Tryz.prog 41 [aw seed,ai h] (.agg [ai (Jn h),aw (Jm seed h)]):=by
 refine zO Tryz.func41 14<|zP 3 [{},yH [(2,yV (AV.br [AV.agg [ai (Jn h),aw (Jm seed h)],ai (OG h)]))],{}] [.aa [5,4,0,1] [4,5]] [yI (vh seed h),yL 2 2,yL 2 2]<|zR (zV [yR (Value.int .i64 (Jn h)),yR (Value.int .u64 (wv (Jm seed h)))])
def dq (k:Nat):Mem:=⟨[109,u8 (48+(k:Int))],4,Jm (300+u64 k) 4,0⟩
theorem BL (i:Int):bK Tryz.prog 18 [ai i] (.agg (aP (dq (ft i 10)))):=by
 have hm:=sF i (n:=10) ah
 have p2:Jn 4=4:=by decide
 refine zO Tryz.func18 16<|zP 2 [{},{hs:=[(1,yV (ai (↑(ft i (10:Int)):Int))),(2,yV (ai ((48:Int)+(↑(ft i (10:Int)):Int)))),(3,yV (ab (u8 ((48:Int)+(↑(ft i (10:Int)):Int))))),(4,yV (AV.arr (ag [u8 ((48:Int)+(↑(ft i (10:Int)):Int))]))),(5,yV (AV.val (Value.string (ByteArray.mk #[u8 ((48:Int)+(↑(ft i (10:Int)):Int))])))),(8,yV (ai (↑(ft i (10:Int)):Int))),(9,yV (aw (u64 (↑(ft i (10:Int)):Int)))),(10,yV (aw (300+u64 (↑(ft i (10:Int)):Int)))),(11,yV (AV.agg [ai (Jn (4:Int)),aw (Jm (300+u64 (↑(ft i (10:Int)):Int)) (4:Int))]))],T:=12}] [.aa [2,0] [2]] [yI (sE i ((10:Int)) ah ah),yN ((48:Int)+(↑(ft i (10:Int)):Int)),yI (iO ((48:Int)+(↑(ft i (10:Int)):Int))),yR [ab (u8 ((48:Int)+(↑(ft i (10:Int)):Int)))],yR (ag [u8 ((48:Int)+(↑(ft i (10:Int)):Int))]),yB ((ByteArray.mk #[109]).size+(ByteArray.mk #[u8 ((48:Int)+(↑(ft i (10:Int)):Int))]).size≤9223372036854775807) (Nat.le_of_ble_eq_true rfl),yI (sE i ((10:Int)) ah ah),yI (a6 (↑(ft i (10:Int)):Int)),yR (aw (300+u64 (↑(ft i (10:Int)):Int))),yI (Ki (300+u64 (↑(ft i (10:Int)):Int)) ((4:Int))),yL 4 4]<|zR (zV [yR (Value.string (ByteArray.mk (dq (ft i (10:Int))).name.toArray)),yR (Value.int .i64 (Jn (4:Int))),yR (Value.int .u64 (wv (dq (ft i (10:Int))).r)),yR (Value.int .u64 0)])
theorem OM {i:Nat} (h:i<10):ft (i:Int) 10=i:=by
 unfold ft
 rw [Int.emod_eq_of_lt ah ah,Int.emod_eq_of_lt ah ah,Int.toNat_natCast]
theorem fy (i:Nat) (h:i<10):bK Tryz.prog 18 [ai i] (.agg (aP (dq i))):=by
 have:=BL i
 rwa [OM h] at this
def Sl (g:fL):List AV:=[ai g.aC,aw g.head,ai g.bB,.own 4 (af aP g.al),.own 7 (af bg g.aF)]
theorem gR (h:Int) (r:UInt64):bK Tryz.prog 43 [.agg [ai h,aw r]] (.br [.own 1 (ag (cT h r)),ai (eE h)]):=by
 have hw:(words [r]).length=8:=by rw [dA];rfl
 by_cases h1:bQ h
 ·have e:eE h=9:=by rw [eE,if_pos h1]
  have ed:cT h r= []:=by rw [cT,if_pos h1]
  refine zO Tryz.func43 16<|zq<|zS<|zQ 1 [yH [(2,yV (ao (decide (bQ h))))]] [yI (gQ h)]<|jO 6 (bQ h)<|zq<|dW (zV [yB (ag (cT h r)= []) (by rw [ed];rfl),yJ 9 (eE h) (by rw [e])])
 ·have e:eE h=0:=by rw [eE,if_neg h1]
  have ed:cT h r=u8 h::words [r]:=by rw [cT,if_neg h1]
  refine zO Tryz.func43 16<|zq<|zS<|zQ 1 [yH [(2,yV (ao (decide (bQ h))))]] [yI (gQ h)]<|dK 6 (bQ h)<|a8<|zS<|P7 8 [3] [(2,yV (ab (u8 h))),(3,yV (AV.arr (ag [u8 h]))),(6,yV (AV.arr (aj [r]))),(7,yV (AV.own 1 (ag (words [r])))),(8,yV (AV.arr (ag ([u8 h]++words [r]))))] [yI (iO h),yR [ab (u8 h)],yI (aV [u8 h]),yR [aw r],yI (ly [r] (by simp only [List.length_cons,List.length_nil];omega)),yI (aV (words [r])),yR (ag ([u8 h]++words [r])),yL 9 140737488355328]<|ak<|a7.su [.aa [3,2,6,1,0] [15,1]] bH<|zR (zV [yB (ag ([u8 h]++words [r])=ag (cT h r)) (by rw [ed];rfl),yJ 0 (eE h) (by rw [e])])
theorem gr (h:Int) (r:UInt64):bK Tryz.prog 47 [.agg [ai h,aw r]] (.br [.own 1 (ag (cT h r)),ai (eE h)]):=by
 have hw:(words [r]).length=8:=by rw [dA];rfl
 by_cases h1:bQ h
 ·have e:eE h=9:=by rw [eE,if_pos h1]
  have ed:cT h r= []:=by rw [cT,if_pos h1]
  refine zO Tryz.func47 17<|zq<|zS<|zP 1 [yH [(2,yV (ao (!decide (bQ h))))]] [.aa [7,3,2,1,0] [1]] [yI (dO h)]<|dQ 7 (!!decide (bQ h)) (by simp_all)<|zq<|dW (zV [yB (ag (cT h r)= []) (by rw [ed];rfl),yJ 9 (eE h) (by rw [e])])
 ·have e:eE h=0:=by rw [eE,if_neg h1]
  have ed:cT h r=u8 h::words [r]:=by rw [cT,if_neg h1]
  refine zO Tryz.func47 17<|zq<|zS<|zP 1 [yH [(2,yV (ao (!decide (bQ h))))]] [.aa [7,3,2,1,0] [1]] [yI (dO h)]<|bo 7 (!!decide (bQ h)) (by simp_all)<|a8<|zS<|P7 8 [3] [(2,yV (ab (u8 h))),(3,yV (AV.arr (ag [u8 h]))),(6,yV (AV.arr (aj [r]))),(7,yV (AV.own 1 (ag (words [r])))),(8,yV (AV.arr (ag ([u8 h]++words [r]))))] [yI (iO h),yR [ab (u8 h)],yI (aV [u8 h]),yR [aw r],yI (de [r] (by simp only [List.length_cons,List.length_nil];omega)),yI (aV (words [r])),yR (ag ([u8 h]++words [r])),yL 9 140737488355328]<|ak<|a7.su [.aa [3,2,7,1,0] [16,1]] bH<|zR (zV [yB (ag ([u8 h]++words [r])=ag (cT h r)) (by rw [ed];rfl),yJ 0 (eE h) (by rw [e])])
structure fW where
 name:List UInt8
 leaf:Int
 kM:List UInt64
 path:List UInt64
def bp (v:fW):List AV:=[dw v.name,ai v.leaf,.sl 1 (aj v.kM),.sl 1 (aj v.path)]
structure eK where
 aC:Int
 prev:UInt64
 kind:Int
 name:List UInt8
 kh:Int
 kr:UInt64
 bB:Int
 dep:nC
 cm:UInt64
 target:UInt64
 ar:List fW
def bk (e:eK):List AV:=[ai e.aC,aw e.prev,ai e.kind,dw e.name,ai e.kh,aw e.kr,ai e.bB,aw e.dep.cm,aw e.dep.peer,.sl 1 (ag e.dep.box),.sl 1 (af ay e.dep.ae),.sl 1 (aj e.dep.au),ai e.dep.need,aw e.dep.target,aw e.cm,aw e.target,.sl 4 (af bp e.ar)]
theorem dR (x:List UInt8) (hx:x.length≤1000):bK Tryz.prog 42 [dw x] (ai (dG x)):=by
 by_cases c1:x.length<1
 ·have e:=pz (.inl c1)
  refine zO Tryz.func42 14<|zq<|zS<|zP 1 [yH [(1,yV (ai (↑x.length:Int)))]] [.aa [10,2,0] []] ([yR (ai (↑x.length:Int))]++yM 4 (yT ((↑x.length:Int)<1)))<|zT 10<|zq<|dW (zV [yJ 9 (dG x) (by rw [e])])
 by_cases c3:32<x.length
 ·have e:=pz (.inr c3)
  refine zO Tryz.func42 14<|zq<|zS<|zP 1 [yH ([(1,yV (ai (↑x.length:Int))),(5,{av:=some (ai (↑x.length:Int)),g:=false}),(7,{b:=false})]++yg [4,6])] [.aa [10,2,0] []] ([yR (ai (↑x.length:Int))]++yM 2 (yF ((↑x.length:Int)<1))++ [yR (ai (↑x.length:Int))]++yM 2 (yF ((↑x.length:Int)<1)))<|jO 10 ((↑x.length:Int)>32)<|zq<|dW (zV [yJ 9 (dG x) (by rw [e])])
 by_cases c2:Lib.validD x=false
 ·have e:=xc ah c2
  refine zO Tryz.func42 14<|zq<|zS<|zP 1 [yH ([(1,yV (ai (↑x.length:Int))),(5,{av:=some (ai (↑x.length:Int)),g:=false}),(7,{b:=false})]++yg [4,6])] [.aa [10,2,0] []] ([yR (ai (↑x.length:Int))]++yM 2 (yF ((↑x.length:Int)<1))++ [yR (ai (↑x.length:Int))]++yM 2 (yF ((↑x.length:Int)<1)))<|dK 10 ((↑x.length:Int)>32)<|a8<|zS<|zP 1 [yH [(1,yV (ao (Lib.validD x))),(2,yV (ao true))]] [.aa [13,10,2,0] []] [yI (j_ x ah),yB (ao (!Lib.validD x)=ao true) (by rw [c2];rfl)]<|zT 13<|zq<|dW (zV [yJ 6 (dG x) (by rw [e])])
 have c4:Lib.validD x=true:=by simpa using c2
 have e:=Dy ah c4
 refine zO Tryz.func42 14<|zq<|zS<|zP 1 [yH ([(1,yV (ai (↑x.length:Int))),(5,{av:=some (ai (↑x.length:Int)),g:=false}),(7,{b:=false})]++yg [4,6])] [.aa [10,2,0] []] ([yR (ai (↑x.length:Int))]++yM 2 (yF ((↑x.length:Int)<1))++ [yR (ai (↑x.length:Int))]++yM 2 (yF ((↑x.length:Int)<1)))<|dK 10 ((↑x.length:Int)>32)<|a8<|zS<|zP 1 [yH [(1,yV (ao (Lib.validD x))),(2,yV (ao false))]] [.aa [13,10,2,0] []] [yI (j_ x ah),yB (ao (!Lib.validD x)=ao false) (by rw [c4];rfl)]<|zF 13<|a8<|zq<|zR (zV [yJ 0 (dG x) (by rw [e])])
def gO (m:Mem):Int:=if dG m.name≠0 then dG m.name else if eE m.h≠0 then eE m.h else if m.used≠0 then 18 else 0
def cO (m:Mem):fL:=if gO m=0 then ⟨0,hash 16 (cT m.h m.r++m.name),1,[m],[]⟩ else ⟨0,0,0,[],[]⟩
instance:Inhabited fL:=⟨⟨0,0,0,[],[]⟩⟩
theorem na (h:Int) (r:UInt64):(cT h r).length≤9:=by
 unfold cT
 split
 ·exact Nat.zero_le _
 ·have:(words [r]).length=8:=by rw [dA];rfl
  rw [List.length_cons];omega
theorem AR (a b:List UInt8) (h:a.length+b.length≤1000000):bK Tryz.prog 45 [.sl 1 [.sl 1 (ag a),.sl 1 (ag b)]] (.own 1 (ag (a++b))):=by
 have:=CO [a,b] (by simp [eX];omega) (by simp)
 rw [show [a,b].flatten=a++b by simp] at this
 exact this
theorem Aq (m:Mem) (hm:m.name.length≤1000):bK Tryz.prog 19 [.agg (aP m)] (.br [.agg (Sl (cO m)),ai (gO m)]):=by
 have hz:=qn m.name hm
 by_cases h1:dG m.name=0
 case neg =>
  have e1:gO m=dG m.name:=if_pos h1
  have e2:cO m=⟨0,0,0,[],[]⟩:=by unfold cO;rw [if_neg ah]
  refine zO Tryz.func19 40<|zq<|zS<|zP 2 [yH [(2,yV (ai (dG m.name)))],yH [(1,yV (ao true))]] [.aa [12,4,3,2,1,0] [2,1]] [yI (dR m.name hm),yB (ao (dG m.name != (0:Int))=ao true) (by simp [h1])]<|zT 12<|zP 1 [{}] [.aa [3,12,4,2,1,0] [2,1]] [yL 5 5]<|dW (zV [yJ 0 ((cO m).aC) (by rw [e2]),yK 0 (wv (cO m).head) (by rw [e2];rfl),yJ 0 ((cO m).bB) (by rw [e2]),yB (af aP (cO m).al= []) (by rw [e2];rfl),yB (af bg (cO m).aF= []) (by rw [e2];rfl),yJ (dG m.name) (gO m) (by rw [e1])])
 by_cases h2:eE m.h=0
 case neg =>
  have e1:gO m=eE m.h:=by unfold gO;rw [if_neg ah,if_pos h2]
  have e2:cO m=⟨0,0,0,[],[]⟩:=by unfold cO;rw [if_neg ah]
  refine zO Tryz.func19 40<|zq<|zS<|zP 2 [yH [(2,yV (ai (dG m.name)))],yH [(1,yV (ao false))]] [.aa [12,4,3,2,1,0] [2,1]] [yI (dR m.name hm),yB (ao (dG m.name != (0:Int))=ao false) (by simp [h1])]<|zF 12<|a8<|zP 1 [yH [(2,yV (AV.br [AV.own 1 (ag (cT m.h m.r)),ai (eE m.h)]))]] [.aa [6,5,12,4,3,2,1,0] [1018,2,1]] [yI (gR m.h m.r),yI (aV (cT m.h m.r))]<|zS<|zQ 1 [yH [(1,yV (ao true))]] [yB (ao (eE m.h != (0:Int))=ao true) (by simp [h2])]<|zT 22<|zP 1 [{}] [.aa [3,22,6,5,12,4,2,1,0] [2,1018,1]] [yL 5 5]<|dW (zV [yJ 0 ((cO m).aC) (by rw [e2]),yK 0 (wv (cO m).head) (by rw [e2];rfl),yJ 0 ((cO m).bB) (by rw [e2]),yB (af aP (cO m).al= []) (by rw [e2];rfl),yB (af bg (cO m).aF= []) (by rw [e2];rfl),yJ (eE m.h) (gO m) (by rw [e1])])
 by_cases h3:m.used=0
 case neg =>
  have e1:gO m=18:=by unfold gO;rw [if_neg ah,if_neg ah,if_pos h3]
  have e2:cO m=⟨0,0,0,[],[]⟩:=by unfold cO;rw [if_neg ah]
  refine zO Tryz.func19 40<|zq<|zS<|zP 2 [yH [(2,yV (ai (dG m.name)))],yH [(1,yV (ao false))]] [.aa [12,4,3,2,1,0] [2,1]] [yI (dR m.name hm),yB (ao (dG m.name != (0:Int))=ao false) (by simp [h1])]<|zF 12<|a8<|zP 1 [yH [(2,yV (AV.br [AV.own 1 (ag (cT m.h m.r)),ai (eE m.h)]))]] [.aa [6,5,12,4,3,2,1,0] [1018,2,1]] [yI (gR m.h m.r),yI (aV (cT m.h m.r))]<|zS<|zQ 1 [yH [(1,yV (ao false))]] [yB (ao (eE m.h != (0:Int))=ao false) (by simp [h2])]<|zF 22<|a8<|zS<|zP 1 [yH [(2,yV (ao (m.used != 0)))]] [.aa [27,22,6,5,12,4,3,2,1,0] [1018,2,1]] [yI (cU m.used 0)]<|dQ 27 (m.used != 0) (by simp_all)<|zP 1 [{}] [.aa [3,27,22,6,5,12,4,2,1,0] [2,1018,1]] [yL 5 5]<|dW (zV [yJ 0 ((cO m).aC) (by rw [e2]),yK 0 (wv (cO m).head) (by rw [e2];rfl),yJ 0 ((cO m).bB) (by rw [e2]),yB (af aP (cO m).al= []) (by rw [e2];rfl),yB (af bg (cO m).aF= []) (by rw [e2];rfl),yJ 18 (gO m) (by rw [e1])])
 have e1:gO m=0:=by unfold gO;rw [if_neg ah,if_neg ah,if_neg (by simp [h3])]
 have e2:cO m=⟨0,hash 16 (cT m.h m.r++m.name),1,[m],[]⟩:=by unfold cO;rw [if_pos e1]
 have hk:=na m.h m.r
 refine zO Tryz.func19 40<|zq<|zS<|zP 2 [yH [(2,yV (ai (dG m.name)))],yH [(1,yV (ao false))]] [.aa [12,4,3,2,1,0] [2,1]] [yI (dR m.name hm),yB (ao (dG m.name != (0:Int))=ao false) (by simp [h1])]<|zF 12<|a8<|zP 1 [yH [(2,yV (AV.br [AV.own 1 (ag (cT m.h m.r)),ai (eE m.h)]))]] [.aa [6,5,12,4,3,2,1,0] [1018,2,1]] [yI (gR m.h m.r),yI (aV (cT m.h m.r))]<|zS<|zQ 1 [yH [(1,yV (ao false))]] [yB (ao (eE m.h != (0:Int))=ao false) (by simp [h2])]<|zF 22<|a8<|zS<|zP 1 [yH [(2,yV (ao (m.used != 0)))]] [.aa [27,22,6,5,12,4,3,2,1,0] [1018,2,1]] [yI (cU m.used 0)]<|bo 27 (m.used != 0) (by simp_all)<|a8<|zP 2 [yH [(5,yV (AV.own 1 (ag (cT m.h m.r++m.name.toArray.toList)))),(6,yV (aw (hash (16:Int) (cT m.h m.r++m.name.toArray.toList))))],{}] [.aa [3,7,27,22,6,5,12,4,2,1,0] [2,38,1]] [yI hz,yI (AR (cT m.h m.r) m.name.toArray.toList (by simp only [];omega)),yI (aV (cT m.h m.r++m.name.toArray.toList)),yI (np ((16:Int)) (cT m.h m.r++m.name.toArray.toList)),yL 5 5]<|zR (zV [yJ 0 ((cO m).aC) (by rw [e2]),yK (wv (hash (16:Int) (cT m.h m.r++m.name.toArray.toList))) (wv (cO m).head) (by rw [e2]),yJ 1 ((cO m).bB) (by rw [e2]),yB ((aP m)=af aP (cO m).al) (by rw [e2];rfl),yB (af bg (cO m).aF= []) (by rw [e2];rfl),yJ 0 (gO m) (by rw [e1])])
def Sm (g:fL):List AV:=[ai g.aC,aw g.head,ai g.bB,.sl 4 (af aP g.al),.own 7 (af bg g.aF)]
theorem Bw (m:Mem) (hm:m.name.length≤1000):bK Tryz.prog 20 [.agg (aP m)] (.br [.agg (Sm (cO m)),ai (gO m)]):=by
 have hz:=qn m.name hm
 by_cases h1:dG m.name=0
 case neg =>
  have e1:gO m=dG m.name:=if_pos h1
  have e2:cO m=⟨0,0,0,[],[]⟩:=by unfold cO;rw [if_neg ah]
  refine zO Tryz.func20 36<|zq<|zS<|zP 2 [yH [(2,yV (ai (dG m.name)))],yH [(1,yV (ao true))]] [.aa [11,4,3,2,1,0] [2,1]] [yI (fi m.name hm),yB (ao (dG m.name != (0:Int))=ao true) (by simp [h1])]<|zT 11<|zP 1 [{}] [.aa [3,11,4,2,1,0] [2,1]] [yL 5 5]<|dW (zV [yJ 0 ((cO m).aC) (by rw [e2]),yK 0 (wv (cO m).head) (by rw [e2];rfl),yJ 0 ((cO m).bB) (by rw [e2]),yB (af aP (cO m).al= []) (by rw [e2];rfl),yB (af bg (cO m).aF= []) (by rw [e2];rfl),yJ (dG m.name) (gO m) (by rw [e1])])
 by_cases h2:eE m.h=0
 case neg =>
  have e1:gO m=eE m.h:=by unfold gO;rw [if_neg ah,if_pos h2]
  have e2:cO m=⟨0,0,0,[],[]⟩:=by unfold cO;rw [if_neg ah]
  refine zO Tryz.func20 36<|zq<|zS<|zP 2 [yH [(2,yV (ai (dG m.name)))],yH [(1,yV (ao false))]] [.aa [11,4,3,2,1,0] [2,1]] [yI (fi m.name hm),yB (ao (dG m.name != (0:Int))=ao false) (by simp [h1])]<|zF 11<|a8<|zP 1 [yH [(2,yV (AV.br [AV.own 1 (ag (cT m.h m.r)),ai (eE m.h)]))]] [.aa [6,5,11,4,3,2,1,0] [1017,2,1]] [yI (gr m.h m.r),yI (aV (cT m.h m.r))]<|zS<|zQ 1 [yH [(1,yV (ao true))]] [yB (ao (eE m.h != (0:Int))=ao true) (by simp [h2])]<|zT 21<|zP 1 [{}] [.aa [3,21,6,5,11,4,2,1,0] [2,1017,1]] [yL 5 5]<|dW (zV [yJ 0 ((cO m).aC) (by rw [e2]),yK 0 (wv (cO m).head) (by rw [e2];rfl),yJ 0 ((cO m).bB) (by rw [e2]),yB (af aP (cO m).al= []) (by rw [e2];rfl),yB (af bg (cO m).aF= []) (by rw [e2];rfl),yJ (eE m.h) (gO m) (by rw [e1])])
 by_cases h3:m.used=0
 case neg =>
  have e1:gO m=18:=by unfold gO;rw [if_neg ah,if_neg ah,if_pos h3]
  have e2:cO m=⟨0,0,0,[],[]⟩:=by unfold cO;rw [if_neg ah]
  refine zO Tryz.func20 36<|zq<|zS<|zP 2 [yH [(2,yV (ai (dG m.name)))],yH [(1,yV (ao false))]] [.aa [11,4,3,2,1,0] [2,1]] [yI (fi m.name hm),yB (ao (dG m.name != (0:Int))=ao false) (by simp [h1])]<|zF 11<|a8<|zP 1 [yH [(2,yV (AV.br [AV.own 1 (ag (cT m.h m.r)),ai (eE m.h)]))]] [.aa [6,5,11,4,3,2,1,0] [1017,2,1]] [yI (gr m.h m.r),yI (aV (cT m.h m.r))]<|zS<|zQ 1 [yH [(1,yV (ao false))]] [yB (ao (eE m.h != (0:Int))=ao false) (by simp [h2])]<|zF 21<|a8<|zS<|zP 1 [yH [(2,yV (ao (m.used != 0)))]] [.aa [26,21,6,5,11,4,3,2,1,0] [1017,2,1]] [yI (cU m.used 0)]<|dQ 26 (m.used != 0) (by simp_all)<|zP 1 [{}] [.aa [3,26,21,6,5,11,4,2,1,0] [2,1017,1]] [yL 5 5]<|dW (zV [yJ 0 ((cO m).aC) (by rw [e2]),yK 0 (wv (cO m).head) (by rw [e2];rfl),yJ 0 ((cO m).bB) (by rw [e2]),yB (af aP (cO m).al= []) (by rw [e2];rfl),yB (af bg (cO m).aF= []) (by rw [e2];rfl),yJ 18 (gO m) (by rw [e1])])
 have e1:gO m=0:=by unfold gO;rw [if_neg ah,if_neg ah,if_neg (by simp [h3])]
 have e2:cO m=⟨0,hash 16 (cT m.h m.r++m.name),1,[m],[]⟩:=by unfold cO;rw [if_pos e1]
 have hk:=na m.h m.r
 have RI:(ag (cT m.h m.r)).length≤9:=by rw [aA];exact hk
 have wh:(ag m.name.toArray.toList).length≤1000:=by rw [aA];exact hm
 refine zO Tryz.func20 36<|zq<|zS<|zP 2 [yH [(2,yV (ai (dG m.name)))],yH [(1,yV (ao false))]] [.aa [11,4,3,2,1,0] [2,1]] [yI (fi m.name hm),yB (ao (dG m.name != (0:Int))=ao false) (by simp [h1])]<|zF 11<|a8<|zP 1 [yH [(2,yV (AV.br [AV.own 1 (ag (cT m.h m.r)),ai (eE m.h)]))]] [.aa [6,5,11,4,3,2,1,0] [1017,2,1]] [yI (gr m.h m.r),yI (aV (cT m.h m.r))]<|zS<|zQ 1 [yH [(1,yV (ao false))]] [yB (ao (eE m.h != (0:Int))=ao false) (by simp [h2])]<|zF 21<|a8<|zS<|zP 1 [yH [(2,yV (ao (m.used != 0)))]] [.aa [26,21,6,5,11,4,3,2,1,0] [1017,2,1]] [yI (cU m.used 0)]<|bo 26 (m.used != 0) (by simp_all)<|a8<|zS<|FM 7 [3] [(3,{av:=some (AV.arr (ag (cT m.h m.r++m.name.toArray.toList))),b:=false}),(4,yV (aw (hash (16:Int) (cT m.h m.r++m.name.toArray.toList))))] [yB (ag (cT m.h m.r)++ag m.name.toArray.toList=ag (cT m.h m.r++m.name.toArray.toList)) (cQ _ _),yB (dh (ag m.name.toArray.toList)) (fF _),yO (((ag (cT m.h m.r)).length+(ag m.name.toArray.toList).length)*1≤140737488355328),yI (ig ((16:Int)) (cT m.h m.r++m.name.toArray.toList) (by simp only [List.length_append];omega)),yR (AV.agg (aP m)),yR (AV.sl 4 (aP m)),yL 5 5]<|ak<|a7.su [.aa [3,26,21,6,11,4,2,1,0] [2,1]] bH<|zR (zV [yJ 0 ((cO m).aC) (by rw [e2]),yK (wv (hash (16:Int) (cT m.h m.r++m.name.toArray.toList))) (wv (cO m).head) (by rw [e2]),yJ 1 ((cO m).bB) (by rw [e2]),yB ((aP m)=af aP (cO m).al) (by rw [e2];rfl),yB (af bg (cO m).aF= []) (by rw [e2];rfl),yJ 0 (gO m) (by rw [e1])])
theorem l_ {l:List Mem} {i:Nat} (h:i<l.length):List.take 4 (List.drop (i*4) (af aP l))=aP (l.getD i default):=kj (e:=4) (fun _=>rfl) h
theorem yU (g:fL) (hm:g.al.length≤1000000) (hd:g.aF.length≤1000000) (hh:∀d∈g.aF,d.ae.length≤1000000):bK Tryz.prog 21 [.agg (bW g),.agg (bW g)] (ao true):=by
 have nj:(af aP g.al).length=g.al.length*4:=aG (e:=4) (fun _=>rfl) ..
 have sK:(af bg g.aF).length=g.aF.length*7:=aG (e:=7) (fun _=>rfl) ..
 refine zO Tryz.func21 81<|zq<|zS<|zP 1 [yH ([(10,{av:=some (ao (g.head != g.head)),g:=false}),(11,{b:=false}),(18,{b:=false}),(22,{k:=g.al.length,g:=false}),(25,{k:=g.al.length,g:=false}),(27,{b:=false}),(31,{k:=g.aF.length,g:=false}),(34,{k:=g.aF.length,g:=false}),(36,{b:=false})]++yg [6,7,8,9,13,14,15,16,17,20,21,23,24,26,29,30,32,33,35])] [.aa [43,4,3,2,0,1] [3,2]] (yM 5 (yS ((g.aC != g.aC)=false))++ [yS (ao (wv g.head != wv g.head)=ao (g.head != g.head)),yS ((g.aC != g.aC)=false)]++yM 6 (yS ((g.head != g.head)=false))++yM 3 (yS ((g.bB != g.bB)=false))++ [yI nj]++yM 3 (yS ((g.bB != g.bB)=false))++ [yI nj]++yM 2 (yS ((g.bB != g.bB)=false))++yM 3 (yS (((↑g.al.length:Int) != (↑g.al.length:Int))=false))++ [yI sK]++yM 3 (yS (((↑g.al.length:Int) != (↑g.al.length:Int))=false))++ [yI sK]++yM 2 (yS (((↑g.al.length:Int) != (↑g.al.length:Int))=false)))<|bo 43 ((↑g.aF.length:Int) != (↑g.aF.length:Int)) (by simp_all)<|a8<|zS<|zq<|zB 0 (zL (fun (i:Nat)=>(⟨[(43,ao ((↑g.aF.length:Int) != (↑g.aF.length:Int))),(3,AV.addr 3 0),(2,AV.addr 2 0),(0,AV.agg (bW g)),(1,AV.agg (bW g)),(5,ai i)],[(3,⟨1,false,true,(bW g)⟩),(2,⟨1,false,true,List.map (aQ 3) (List.map (aQ 2) (bW g))⟩)]⟩:AS)) (fun i=>(i≤g.al.length)) (fun i=>(g.al.length-i)) (0) ?_ (zW [.aa [43,3,2,0,1,5] [3,2]]) ?_)
 ·omega
 intro i hi
 refine zS<|zP 1 [yH [(3,{k:=g.al.length})]] [.aa [48,43,3,2,0,1,5] [3,2]] [yI nj] (zD 48 ((↑i:Int)<(↑g.al.length:Int)) (fun h=>?_) (fun h=>?_))
 ·have dM:i<g.al.length:=ah
  have ix:=l_ dM
  refine a8<|zS<|zB 1<|zP 1 [{hs:=[(3,{k:=i}),(4,yV (AV.agg (aP (g.al.getD i default)))),(8,{k:=i}),(9,yV (AV.agg (aP (g.al.getD i default))))],T:=10}] [.aa [61,48,43,3,2,0,1,5] [3,2]] [yR (↑i:Int),yO (i*4<(af aP g.al).length),yu aP g.al i 0 4,yR 4,yR (↑i:Int),yO (i*4<(af aP g.al).length),yu aP g.al i 0 4,yR 4]<|bo 61 (!((ByteArray.mk (g.al.getD i default).name.toArray).toList == (ByteArray.mk (g.al.getD i default).name.toArray).toList && ((g.al.getD i default).h == (g.al.getD i default).h && (wv (g.al.getD i default).r == wv (g.al.getD i default).r && true) && (wv (g.al.getD i default).used == wv (g.al.getD i default).used && true)))) (by simp_all)<|zK<|aM<|ak<|zX (yH [(1,yV (ai ((↑i:Int)+1)))]) [yN ((↑i:Int)+1)] (aI (i+1) (by assumption) ah (zW [.aa [43,3,2,0,1,5] [3,2]]))
 ·skip
  refine zE 0<|aY<|aN<|bm<|ak<|zS<|zq<|zB 2 (zL (fun (j:Nat)=>(⟨[(48,ao (decide ((↑i:Int)<(↑g.al.length:Int)))),(43,ao ((↑g.aF.length:Int) != (↑g.aF.length:Int))),(3,AV.addr 3 0),(2,AV.addr 2 0),(0,AV.agg (bW g)),(1,AV.agg (bW g)),(5,ai ↑i),(6,ai j)],[(3,⟨1,false,true,(bW g)⟩),(2,⟨1,false,true,List.map (aQ 3) (List.map (aQ 2) (bW g))⟩)]⟩:AS)) (fun j=>(j≤g.aF.length)) (fun j=>(g.aF.length-j)) (0) ?_ (zW [.aa [48,43,3,2,0,1,5,6] [3,2]]) ?_)
  ·omega
  intro j hj
  refine zS<|zP 1 [yH [(3,{k:=g.aF.length})]] [.aa [66,48,43,3,2,0,1,5,6] [3,2]] [yI sK] (zD 66 ((↑j:Int)<(↑g.aF.length:Int)) (fun h2=>?_) (fun h2=>?_))
  ·have sJ:j<g.aF.length:=ah
   have UJ:(g.aF.getD j default).ae.length≤1000000:=hh _ (by rw [List.getD_eq_getElem?_getD,List.getElem?_eq_getElem sJ];exact List.getElem_mem sJ)
   have hs:=yW (g.aF.getD j default) UJ
   refine a8<|zS<|zB 3<|zP 1 [{hs:=[(3,{k:=j}),(4,yV (AV.agg (bg (g.aF.getD j default)))),(8,{k:=j}),(9,yV (AV.agg (bg (g.aF.getD j default)))),(10,yV (ao true))],T:=10}] [.aa [80,66,48,43,3,2,0,1,5,6] [3,2]] [yR (↑j:Int),yO (j*7<(af bg g.aF).length),yu bg g.aF j 0 7,yR 7,yR (↑j:Int),yO (j*7<(af bg g.aF).length),yu bg g.aF j 0 7,yR 7,yI hs]<|zF 80<|zK<|aM<|ak<|zX (yH [(1,yV (ai ((↑j:Int)+1)))]) [yN ((↑j:Int)+1)] (aI (j+1) (by assumption) ah (zW [.aa [48,43,3,2,0,1,5,6] [3,2]]))
  ·skip
   refine zE 2<|aY<|aN<|bm<|ak<|zq<|zR (cE)
def uQ (d:nC):Prop:=d.cm=0∧d.peer=0∧d.box.length=0∧d.ae.length=0∧d.au.length=0∧d.need=0∧d.target=0
instance (d:nC):Decidable (uQ d):=inferInstanceAs (Decidable (_∧_∧_∧_∧_∧_∧_))
def eN (e:eK):Prop:=(e.kind=1∨e.kind=2∨e.name= [])∧(e.kind=1∨e.kh=0∧e.kr=0)∧(e.kind=3∨e.bB=0)∧(e.kind=4∨uQ e.dep)∧(e.kind=5∨e.cm=0∧e.target=0)∧e.dep.target=0
instance (e:eK):Decidable (eN e):=inferInstanceAs (Decidable (_∧_∧_∧_∧_∧_))
def fk (d:nC):Int:=if 1024<d.box.length then 8 else if nv d.ae.length d.need then 9 else if d.au.length≠d.ae.length then 4 else ff (mj d.ae) d.ae.length
def uR (d:nC):List fo:=[aE d.cm,aE d.peer,dC d.box]++(bz (u64 d.ae.length)::d.ae.map b_)++(bz (u64 d.au.length)::d.au.map aE)++ [aE (u64 d.need)]
def eF (e:eK):Int:=if e.kind=1 then (if dG e.name≠0 then dG e.name else eE e.kh) else if e.kind=2 then dG e.name else if e.kind=3 then (if e.bB<1∨8<e.bB then 9 else 0) else if e.kind=4 then fk e.dep else if e.target=0 then 9 else 0
def fU (e:eK):List fo:=if e.kind=1 then [b_ e.name,dC (cT e.kh e.kr)] else if e.kind=2 then [b_ e.name] else if e.kind=3 then [aE (u64 e.bB)] else if e.kind=4 then uR e.dep else [aE e.cm,aE e.target]
def fe (k:Int):Nat:=if k=1∨k=5 then 2 else if k=4 then 6 else 1
def eY (e:eK):Int:=if e.kind<1∨5<e.kind then 3 else if ¬eN e then 4 else if e.aC<1∨2147483647<e.aC then 9 else eF e
def fH (e:eK):List fo:=bz (u64 (3+fe e.kind)):: [aE (u64 e.aC),aE e.prev,aE (u64 e.kind)]++fU e
def j0 (e:eK):List UInt8:=if eY e=0 then gF (fH e) else []
def dJ (e:eK):UInt64:=hash 16 (j0 e)
def iQ (e:eK):List (List fo):=if e.kind=4 then [[aE e.dep.cm],[aE e.dep.peer],[dC e.dep.box],bz (u64 e.dep.ae.length)::e.dep.ae.map b_,bz (u64 e.dep.au.length)::e.dep.au.map aE,[aE (u64 e.dep.need)]] else (fU e).map fun x=>[x]
theorem G5 {x:List UInt8} (h:dG x=0):1≤x.length∧x.length≤32:=by
 apply Classical.byContradiction
 intro q
 have:=pz (x:=x) ah
 omega
theorem G4 {x:List UInt8} (h:dG x=0):Lib.validD x=true:=by
 have:=G5 h
 cases e:Lib.validD x with
 | true=>rfl
 | false=>have:=xc (x:=x) ah e;omega
theorem HT {l:List (List UInt8)} {i:Nat} (h:mj l i=0):dG (l.getD i default)=0:=by
 apply Classical.byContradiction
 intro q
 rw [HV rfl q] at h
 exact q h
theorem sD {x:List UInt8} (h:dG x=0):er (b_ x):=.text (by have:=G5 h;omega) (G4 h)
structure P6 (d:nC):Prop where
 box:d.box.length≤1024
 n1:1≤d.ae.length
 n8:d.ae.length≤8
 need:1≤d.need∧d.need≤d.ae.length
 QI:d.au.length=d.ae.length
 HP:∀x∈d.ae,dG x=0
theorem IP {d:nC} (h:fk d=0):P6 d:=by
 unfold fk at h
 by_cases c1:1024<d.box.length
 ·rw [if_pos c1] at h;omega
 rw [if_neg c1] at h
 by_cases c2:nv d.ae.length d.need
 ·rw [if_pos c2] at h;omega
 rw [if_neg c2] at h
 by_cases c3:d.au.length≠d.ae.length
 ·rw [if_pos c3] at h;omega
 rw [if_neg c3] at h
 unfold nv at c2
 refine ⟨ah,ah,ah,ah,ah,fun x hx=>?_⟩
 obtain ⟨i,hi,rfl⟩:=List.mem_iff_getElem.1 hx
 have:=HT (uG h i hi)
 rwa [List.getD_eq_getElem?_getD,List.getElem?_eq_getElem hi] at this
theorem mg {T:Type} {f:T->fo} {l:List T} (h:∀x∈l,er (f x)):∀y∈l.map f,er y:=fun y hy=>by
 obtain ⟨x,hx,rfl⟩:=List.mem_map.1 hy
 exact h x hx
theorem Hq (h:Int) (r:UInt64):er (dC (cT h r)):=.byte (by have:=na h r;omega)
theorem kV {x:fo} (h:er x):ea x.kind∧x.cC.length≤10000:=by
 refine ⟨?_,by have:=h.cC;omega⟩
 rcases h.kind with q|q|q
 ·exact .inl q
 ·exact .inr (.inl q)
 ·exact .inr (.inr (.inl q))
theorem mw (n:UInt64):ea (bz n).kind∧(bz n).cC.length≤10000:=⟨.inr (.inr (.inr rfl)),Nat.zero_le _⟩
structure NM (e:eK):Prop where
 TP:Je ([[aE (u64 e.aC)],[aE e.prev],[aE (u64 e.kind)]]++iQ e)
 Wc:ff (n9 ([[aE (u64 e.aC)],[aE e.prev],[aE (u64 e.kind)]]++iQ e)) (3+(iQ e).length)=0
 arr:oW ([[aE (u64 e.aC)],[aE e.prev],[aE (u64 e.kind)]]++iQ e)=fH e
 VN:eu (fH e)=0
 len:(fH e).length≤30
 SG:∀x∈fH e,ea x.kind∧x.cC.length≤10000
 n6:(iQ e).length≤6
theorem B9 {e:eK} (h:eF e=0) (h4:e.kind≠4):∀x∈fU e,er x:=by
 intro x hx
 unfold eF at h
 unfold fU at hx
 by_cases k1:e.kind=1
 ·rw [if_pos k1] at h hx
  have hn:dG e.name=0:=by
   apply Classical.byContradiction;intro q;rw [if_pos q] at h;exact q h
  simp only [List.mem_cons,List.not_mem_nil,or_false] at hx
  rcases hx with rfl|rfl
  ·exact sD hn
  ·exact Hq _ _
 rw [if_neg k1] at h hx
 by_cases k2:e.kind=2
 ·rw [if_pos k2] at h hx
  obtain rfl:=List.mem_singleton.1 hx
  exact sD h
 rw [if_neg k2] at h hx
 by_cases k3:e.kind=3
 ·rw [if_pos k3] at hx
  obtain rfl:=List.mem_singleton.1 hx
  exact .uint _
 rw [if_neg k3] at hx
 rw [if_neg h4] at hx
 simp only [List.mem_cons,List.not_mem_nil,or_false] at hx
 rcases hx with rfl|rfl
 ·exact .uint _
 ·exact .uint _
theorem KQ {e:eK} (hk:1≤e.kind∧e.kind≤5) (h4:e.kind≠4):(fU e).length=fe e.kind:=by
 unfold fU fe
 by_cases k1:e.kind=1
 ·rw [if_pos k1,if_pos (.inl k1)];rfl
 rw [if_neg k1]
 by_cases k2:e.kind=2
 ·rw [if_pos k2,if_neg ah,if_neg h4];rfl
 rw [if_neg k2]
 by_cases k3:e.kind=3
 ·rw [if_pos k3,if_neg ah,if_neg h4];rfl
 rw [if_neg k3,if_neg h4,if_pos ah];rfl
theorem Dc (k:Int):1≤fe k∧fe k≤6:=by unfold fe;split<;>(try split)<;>omega
theorem D9 {f:Nat->Int}:∀ {n:Nat},(∀j,j<n->f j=0)->ff f n=0
 | 0,_=>rfl
 | n+1,h=>by
  show (if _ then _ else _)=_
  rw [if_neg (by rw [D9 fun j hj=>h j ah];decide)]
  exact h n ah
theorem Ng {vs:List (List fo)} (h:∀v∈vs,eu v=0):ff (n9 vs) vs.length=0:=D9 fun j hj=>by
 show eu (vs.getD j default)=0
 rw [List.getD_eq_getElem?_getD,List.getElem?_eq_getElem hj]
 exact h _ (List.getElem_mem hj)
theorem yt {n:UInt64} {xs:List fo} (hx:∀x∈xs,er x) (hn:wv n=xs.length) (h1:1≤xs.length) (h2:xs.length≤100):eu (bz n::xs)=0:=Da hx hn h1 h2
theorem x7 {e:eK} (h:eY e=0):NM e:=by
 unfold eY at h
 by_cases k0:e.kind<1∨5<e.kind
 ·rw [if_pos k0] at h;omega
 rw [if_neg k0] at h
 by_cases c1:¬eN e
 ·rw [if_pos c1] at h;omega
 rw [if_neg c1] at h
 by_cases c2:e.aC<1∨2147483647<e.aC
 ·rw [if_pos c2] at h;omega
 rw [if_neg c2] at h
 have ht:=Dc e.kind
 have hw:wv (u64 (3+fe e.kind))=(3+fe e.kind:Nat):=by rw [show (3:Int)+fe e.kind=((3+fe e.kind:Nat):Int) by omega,ql];omega
 have h3:∀x∈ [aE (u64 e.aC),aE e.prev,aE (u64 e.kind)],er x:=fun x hx=>by
  simp only [List.mem_cons,List.not_mem_nil,or_false] at hx
  rcases hx with rfl|rfl|rfl<;>exact .uint _
 by_cases k4:e.kind=4
 ·have hd:fk e.dep=0:=by
   unfold eF at h
   rwa [if_neg ah,if_neg ah,if_neg ah,if_pos k4] at h
  have ok:=IP hd
  have n1:=ok.n1
  have n8:=ok.n8
  have UT:=ok.QI
  have hH:∀x∈e.dep.ae.map b_,er x:=mg fun x hx=>sD (ok.HP x hx)
  have hD:∀x∈e.dep.au.map aE,er x:=mg fun x _=>.uint x
  have hB:er (dC e.dep.box):=.byte ok.box
  have wH:wv (u64 (e.dep.ae.length:Int))=(e.dep.ae.map b_).length:=by rw [ql,List.length_map];omega
  have wD:wv (u64 (e.dep.au.length:Int))=(e.dep.au.map aE).length:=by rw [ql,List.length_map];omega
  have tk:fe e.kind=6:=by unfold fe;rw [if_neg ah,if_pos k4]
  have hv:iQ e= [[aE e.dep.cm],[aE e.dep.peer],[dC e.dep.box],bz (u64 e.dep.ae.length)::e.dep.ae.map b_,bz (u64 e.dep.au.length)::e.dep.au.map aE,[aE (u64 e.dep.need)]]:=if_pos k4
  have hf:fU e=uR e.dep:=by unfold fU;rw [if_neg ah,if_neg ah,if_neg ah,if_pos k4]
  have FU:(e.dep.ae.map b_).length=e.dep.ae.length:=List.length_map ..
  have BW:(e.dep.au.map aE).length=e.dep.ae.length:=by rw [List.length_map];exact UT
  have each:∀v∈ [[aE (u64 e.aC)],[aE e.prev],[aE (u64 e.kind)]]++iQ e,v.length≤20∧eu v=0∧ ∀x∈v,ea x.kind∧x.cC.length≤10000:=by
   have one:∀x,er x-> [x].length≤20∧eu [x]=0∧ ∀y∈ [x],ea y.kind∧y.cC.length≤10000:=fun x hx=>⟨by simp,yr hx,fun y hy=>by obtain rfl:=List.mem_singleton.1 hy;exact kV hx⟩
   intro v HA
   rw [hv] at HA
   simp only [List.cons_append,List.nil_append,List.mem_cons,List.not_mem_nil,or_false] at HA
   rcases HA with rfl|rfl|rfl|rfl|rfl|rfl|rfl|rfl|rfl
   ·exact one _ (.uint _)
   ·exact one _ (.uint _)
   ·exact one _ (.uint _)
   ·exact one _ (.uint _)
   ·exact one _ (.uint _)
   ·exact one _ hB
   ·refine ⟨by rw [List.length_cons,FU];omega,yt hH wH ah ah,fun y hy=>?_⟩
    rcases List.mem_cons.1 hy with rfl|hy
    ·exact mw _
    ·exact kV (hH y hy)
   ·refine ⟨by rw [List.length_cons,BW];omega,yt hD wD ah ah,fun y hy=>?_⟩
    rcases List.mem_cons.1 hy with rfl|hy
    ·exact mw _
    ·exact kV (hD y hy)
   ·exact one _ (.uint _)
  have NY:([[aE (u64 e.aC)],[aE e.prev],[aE (u64 e.kind)]]++iQ e).length=9:=by rw [hv];rfl
  have ha:oW ([[aE (u64 e.aC)],[aE e.prev],[aE (u64 e.kind)]]++iQ e)=fH e:=by
   unfold oW fH
   rw [NY,hf,hv,tk]
   unfold uR
   simp
  have Kw:(fH e).length=10+2*e.dep.ae.length:=by
   unfold fH
   rw [hf]
   unfold uR
   simp only [List.length_cons,List.length_append,FU,BW,List.length_nil]
   omega
  refine ⟨⟨by rw [NY];omega,fun v h=>(each v h).1,fun v h x hx=>((each v h).2.2 x hx).1,fun v h x hx=>((each v h).2.2 x hx).2⟩,?_,ha,?_,ah,?_,by rw [hv];exact Nat.le_refl _⟩
  ·have:=Ng fun v h=>(each v h).2.1
   rw [NY] at this
   rw [show 3+(iQ e).length=9 by rw [hv];rfl]
   exact this
  ·refine JH ah ?_
   have w9:wv (u64 (3+fe e.kind))=9:=by rw [hw,tk];rfl
   have e1:fH e=bz (u64 (3+fe e.kind))::([aE (u64 e.aC),aE e.prev,aE (u64 e.kind),aE e.dep.cm,aE e.dep.peer,dC e.dep.box]++((bz (u64 e.dep.ae.length)::e.dep.ae.map b_)++((bz (u64 e.dep.au.length)::e.dep.au.map aE)++ [aE (u64 e.dep.need)]))):=by
    unfold fH
    rw [hf]
    unfold uR
    simp
   have l6:∀x∈ [aE (u64 e.aC),aE e.prev,aE (u64 e.kind),aE e.dep.cm,aE e.dep.peer,dC e.dep.box],er x:=fun x hx=>by
    simp only [List.mem_cons,List.not_mem_nil,or_false] at hx
    rcases hx with rfl|rfl|rfl|rfl|rfl|rfl
    ·exact .uint _
    ·exact .uint _
    ·exact .uint _
    ·exact .uint _
    ·exact .uint _
    ·exact hB
   rw [e1,Gx _ ah ah,w9,mU,tx (by simp) l6 (show ((6:Nat):Int)<9 by omega) (ah:1+6≤500)]
   show k_ ([]++ [(9:Int)-6]) (1+6) _=_
   rw [mU,vO (by simp) hH wH ah (by decide) ah]
   show k_ ([]++ [(9:Int)-6-1]) (1+6+(bz (u64 e.dep.ae.length)::e.dep.ae.map b_).length) _=_
   rw [List.length_cons,FU,mU,vO (by simp) hD wD ah (by decide) ah]
   show k_ ([]++ [(([aE (u64 e.dep.need)]:List fo).length:Int)]) _ [aE (u64 e.dep.need)]=_
   have RG:(bz (u64 (e.dep.au.length:Int))::e.dep.au.map aE).length=e.dep.ae.length+1:=by rw [List.length_cons,BW]
   rw [RG]
   exact tz (f:=[]) (xs:=[aE (u64 e.dep.need)]) (Nat.zero_le _) (fun x hx=>by obtain rfl:=List.mem_singleton.1 hx;exact .uint _) Nat.zero_lt_one (by show _+1≤_;omega)
  ·intro x hx
   rw [←ha] at hx
   unfold oW at hx
   rcases List.mem_cons.1 hx with rfl|hx
   ·exact mw _
   ·obtain ⟨v,MC,MB⟩:=List.mem_flatten.1 hx
    exact (each v MC).2.2 x MB
 ·have LD:=B9 h k4
  have Kw:=KQ (e:=e) ah k4
  have hv:iQ e=(fU e).map fun x=>[x]:=if_neg k4
  have SY:∀x∈ [aE (u64 e.aC),aE e.prev,aE (u64 e.kind)]++fU e,er x:=fun x hx=>by
   rcases List.mem_append.1 hx with hx|hx
   ·exact h3 x hx
   ·exact LD x hx
  have Th:([aE (u64 e.aC),aE e.prev,aE (u64 e.kind)]++fU e).length=3+fe e.kind:=by rw [List.length_append,Kw];rfl
  obtain ⟨v1,v2,v3,v4⟩:=oJ SY ah ah
  have hm:([aE (u64 e.aC),aE e.prev,aE (u64 e.kind)]++fU e).map (fun x=>[x])= [[aE (u64 e.aC)],[aE e.prev],[aE (u64 e.kind)]]++iQ e:=by rw [List.map_append,hv];rfl
  rw [hm] at v1 v2 v3 v4
  have ha:oW ([[aE (u64 e.aC)],[aE e.prev],[aE (u64 e.kind)]]++iQ e)=fH e:=by
   rw [v4,Th]
   unfold fH
   rw [show ((3+fe e.kind:Nat):Int)=3+fe e.kind by omega];rfl
  have HY:(fH e).length=1+(3+fe e.kind):=by
   rw [←ha,v4,List.length_cons,Th];omega
  refine ⟨v1,?_,ha,by rw [←ha];exact v3,ah,fun x hx=>?_,by rw [hv,List.length_map];omega⟩
  ·rw [List.length_append] at v2
   exact v2
  ·rw [←ha,v4] at hx
   rcases List.mem_cons.1 hx with rfl|hx
   ·exact mw _
   ·exact kV (SY x hx)
def eS (l:List Mem) (h:List UInt8):Int:=if (∃m∈l,m.name=h) then (l.findIdx (fun m=>m.name == h):Int) else -1
theorem DB {l:List Mem} {h:List UInt8} (hn:∀j,j<l.length->(l.getD j default).name≠h):eS l h= -1:=by
 unfold eS
 rw [if_neg]
 rintro ⟨m,hm,e⟩
 obtain ⟨j,hj,e2⟩:=List.getElem_of_mem hm
 exact hn j hj (by rw [List.getD_eq_getElem?_getD,List.getElem?_eq_getElem hj];show l[j].name=h;rw [e2];exact e)
theorem DD {l:List Mem} {h:List UInt8} {i:Nat} (hi:i<l.length) (hn:∀j,j<i->(l.getD j default).name≠h) (e:(l.getD i default).name=h):eS l h=i:=by
 rw [List.getD_eq_getElem?_getD,List.getElem?_eq_getElem hi] at e
 have e:l[i].name=h:=e
 unfold eS
 rw [if_pos ⟨l[i],List.getElem_mem hi,e⟩]
 have:l.findIdx (fun m=>m.name == h)=i:=(List.findIdx_eq hi).2 ⟨by simpa using e,fun j hj=>by
  have:=hn j hj
  rw [List.getD_eq_getElem?_getD,List.getElem?_eq_getElem ah] at this
  simpa using this⟩
 rw [this]
theorem BN (seed:UInt64) (h:Int):bK Tryz.prog 97 [aw seed,ai h] (.lu 142 [.ptr [ai h] 0,.ptr [aw seed] 0]):=by
 refine zO Tryz.func97 6<|zP 2 [{},{}] [.aa [4,3,2,0,1] []] []<|zR (zV [yR [AV.ptr [ai h] 0,AV.ptr [aw seed] 0]])
def kD (seed:UInt64) (h i:Nat):List UInt64:=(List.range (2^(h-i))).map (fM seed i)
theorem pC (seed:UInt64) (h i:Nat):(kD seed h i).length=2^(h-i):=by simp [kD]
theorem pD (seed:UInt64) (h i k:Nat) (hk:k<2^(h-i)):(kD seed h i).getD k 0=fM seed i k:=by simp [kD,hk]
def xj (yv:Value) (seed:UInt64) (h:Nat) (eW:Nat) (l:List UInt64):AS :=
 ⟨[(0,.val yv),(1,.ptr [ai (h:Int)] 0),(2,.ptr [aw seed] 0),(4,.ref 11),(6,ai (eW:Int))],[(11,⟨1,true,false,aj l⟩)]⟩
theorem Ke (yv:Value) (seed:UInt64) (h:Nat) (hh:h≤4):a7 Tryz.prog 63 (Code.seq (hU (db Tryz.f142)) (Code.seq (hU (dk (db Tryz.f142))) (Code.seq (hU (dk (dk (db Tryz.f142)))) .skip))) (fun e s'=>e= .normal∧bN s' (xj yv seed h 0 (kD seed h 0))) ⟨kO 0 [.val yv,.ptr [ai (h:Int)] 0,.ptr [aw seed] 0],[]⟩:=by
 have hl:=pC seed h 0
 have ix:∀k:Nat,k<2^h->(kD seed h 0).getD k 0=combine k (bA seed k 18):=fun k hk=>pD seed h 0 k hk
 rw [Nat.sub_zero] at hl
 have hp:2^h≤16:=Nat.pow_le_pow_right (by decide) hh
 have Kt:IntKind.i64.wrap (1*2^min ((h:Nat):Int).toNat IntKind.i64.bits)=((2^h:Nat):Int):=by
  rcases (ah:h=0∨h=1∨h=2∨h=3∨h=4) with rfl|rfl|rfl|rfl|rfl<;>decide +kernel
 generalize kD seed h 0=L at *
 generalize 2^h=m at *
 refine zP 1 [yH [(1,yV (ai ↑m)),(2,{av:=some (AV.arr (aj (List.replicate m 0))),k:=m,m:=m})]] [.aa [4,0,1,2] [11]] ([yI (yc Kt),yO ((0:Int)≤(↑h:Int)),yB (List.replicate m (eh)=aj (List.replicate m 0)) (s_ _)]++yM 2 (yR (↑m:Int))++ [yO (m≤m),yO (8*m≤281474976710656),yB (m≤maxLen) (by unfold maxLen;omega)])<|zS<|zQ 1 [yH [(1,{k:=m})]] [yB ((aj (List.replicate m 0)).length=m) (by simp only [aD,List.length_replicate])]<|zB 0 (zL (fun (k:Nat)=>(⟨[(13,ai ↑m),(4,AV.ref 11),(0,AV.val yv),(1,AV.ptr [ai ↑h] 0),(2,AV.ptr [aw seed] 0),(14,ai k)],[(11,⟨1,true,false,aj (cH m L k)⟩)]⟩:AS)) (fun k=>(k≤m)) (fun k=>(m-k)) (0) ?_ (zW [.aa [13,4,0,1,2,14] [11]]) ?_)
 ·omega
 intro k hk
 have hf:=ki hl hk
 refine zq<|zS (zD 15 ((↑k:Int)<(↑m:Int)) (fun g=>?_) (fun g=>?_))
 ·have e1:=lP hl (ah:k<m)
  have e2:=ix k ah
  refine a8<|zS<|zB 1<|zq<|zX (yH [(4,yV (aw (combine (↑k:Int) (bA seed (↑k:Int) 18)))),(5,{k:=k}),(6,yV (AV.arr (aj ((cH m L k).set k (combine (↑k:Int) (bA seed (↑k:Int) 18))))))]) [yI (zp seed ((↑k:Int))),yR (↑k:Int),yB (k<(aj (cH m L k)).length) (by simp only [aD];omega),yB ((aj (cH m L k)).set k (aw (combine (↑k:Int) (bA seed (↑k:Int) 18)))=aj ((cH m L k).set k (combine (↑k:Int) (bA seed (↑k:Int) 18)))) (km _ _ _),yB (k+1≤(aj (cH m L k)).length) (by simp only [aD];omega)]<|aM<|ak<|zX (yH [(0,yV (ai ((↑k:Int)+1)))]) [yN ((↑k:Int)+1)] (aI (k+1) ah ah (e_ [.aa [13,4,0,1,2,14] [11]] [] [11] [yB (aj ((cH m L k).set k (combine (↑k:Int) (bA seed (↑k:Int) 18)))=aj (cH m L (k+1))) (congrArg aj (by rw [←e2];exact e1))]))
 ·have e:k=m:=ah
  subst e
  have e1:=kG hl
  rw [e1]
  refine zE 0<|aY<|aN<|bm<|ak<|zq<|zK ?_
  exact ⟨rfl,bN.of [.aa [0,1,2,4,6] [11]] (s1:=xj yv seed h 0 L) bH rfl⟩
theorem Hj (yv:Value) (seed:UInt64) (h eW:Nat) (hh:h≤4) (RD:eW<h):a7 Tryz.prog 63 (dk (fc (fc (dk (dk (dk (db Tryz.f142))))))) (fun e s'=>e= .normal∧bN s' (xj yv seed h (eW+1) (kD seed h (eW+1)))) (xj yv seed h eW (kD seed h eW)):=by
 have hl:=pC seed h eW
 have BW:=pC seed h (eW+1)
 have em:2^(h-eW)=2*2^(h-(eW+1)):=by rw [show h-eW=h-(eW+1)+1 by omega,Nat.pow_succ,Nat.mul_comm]
 have hp:2^(h-(eW+1))≤16:=Nat.le_trans (Nat.pow_le_pow_right (by decide) (by omega:h-(eW+1)≤4)) (by decide)
 have ix:∀k:Nat,k<2^(h-(eW+1))->(kD seed h (eW+1)).getD k 0=jH ((eW+1:Nat):Int) ((kD seed h eW).getD (2*k) 0) ((kD seed h eW).getD (2*k+1) 0):=fun k hk=>by
  rw [pD seed h (eW+1) k hk,pD seed h eW (2*k) ah,pD seed h eW (2*k+1) ah];rfl
 generalize kD seed h eW=L at *
 generalize kD seed h (eW+1)=L2 at *
 rw [em] at hl
 clear em
 generalize 2^(h-(eW+1))=m at *
 have hq:IntKind.i64.wrap ((L.length:Int).tdiv 2)=(m:Int):=by
  rw [hl,Int.tdiv_eq_ediv_of_nonneg ah,fj ah ah];omega
 show a7 _ _ _ _ (AS.mk [(0,.val yv),(1,.ptr [ai (h:Int)] 0),(2,.ptr [aw seed] 0),(4,.ref 11),(6,ai (eW:Int))] [(11,Row.mk 1 true false (aj L))])
 refine zS<|zB 3<|zP 1 [yH [(1,{k:=L.length}),(2,yV (ai ↑m)),(3,{av:=some (AV.arr (aj (List.replicate m 0))),k:=m,m:=m})]] [.aa [7,0,1,2,4,6] [38,11]] ([yI (aD L),yI (yc hq),yO ((2:Int)≠(0:Int)),yB (List.replicate m (eh)=aj (List.replicate m 0)) (s_ _)]++yM 2 (yR (↑m:Int))++ [yO (m≤m),yO (8*m≤281474976710656),yB (m≤maxLen) (by unfold maxLen;omega)])<|zS<|zQ 1 [yH [(1,{k:=m})]] [yB ((aj (List.replicate m 0)).length=m) (by simp only [aD,List.length_replicate])]<|zB 4 (zL (fun (k:Nat)=>(⟨[(40,ai ↑m),(7,AV.ref 38),(0,AV.val yv),(1,AV.ptr [ai ↑h] 0),(2,AV.ptr [aw seed] 0),(4,AV.ref 11),(6,ai ↑eW),(41,ai k)],[(11,⟨1,true,false,aj L⟩),(38,⟨1,true,false,aj (cH m L2 k)⟩)]⟩:AS)) (fun k=>(k≤m)) (fun k=>(m-k)) (0) ?_ (zW [.aa [40,7,0,1,2,4,6,41] [11,38]]) ?_)
 ·omega
 intro k hk
 have hf:=ki BW hk
 refine zq<|zS (zD 42 ((↑k:Int)<(↑m:Int)) (fun g=>?_) (fun g=>?_))
 ·have e1:=lP BW (ah:k<m)
  have e2:=ix k ah
  have w1:IntKind.i64.wrap ((eW:Int)+1)=((eW+1:Nat):Int):=by rw [fj ah ah];omega
  have w2:IntKind.i64.wrap (2*(k:Int))=((2*k:Nat):Int):=by rw [fj ah ah];omega
  have w3:IntKind.i64.wrap (((2*k:Nat):Int)+1)=((2*k+1:Nat):Int):=by rw [fj ah ah];omega
  refine a8<|zS<|zB 5<|zq<|zX ({hs:=[(3,yV (ai (↑(eW+1):Int))),(6,yV (ai (↑(2*k):Int))),(7,{k:=2*k}),(8,yV (aw (L.getD (2*k) 0))),(11,yV (ai (↑(2*k):Int))),(12,yV (ai (↑(2*k+1):Int))),(13,{k:=2*k+1}),(14,yV (aw (L.getD (2*k+1) 0))),(15,yV (aw (jH (↑(eW+1):Int) (L.getD (2*k) 0) (L.getD (2*k+1) 0)))),(16,{k:=k}),(17,yV (AV.arr (aj ((cH m L2 k).set k (jH (↑(eW+1):Int) (L.getD (2*k) 0) (L.getD (2*k+1) 0))))))],T:=16}) [yB (ai (IntKind.i64.wrap ((↑eW:Int)+1))=ai (↑(eW+1):Int)) (eZ ah ah),yB (ai (IntKind.i64.wrap ((2:Int)*(↑k:Int)))=ai (↑(2*k):Int)) (eZ ah ah),yR (↑(2*k):Int),yB (2*k<(aj L).length) (by simp only [aD];omega),yB ((aj L)[2*k]?=some (aw (L.getD (2*k) 0))) (eG ah),yB (ai (IntKind.i64.wrap ((2:Int)*(↑k:Int)))=ai (↑(2*k):Int)) (eZ ah ah),yB (ai (IntKind.i64.wrap ((↑(2*k):Int)+1))=ai (↑(2*k+1):Int)) (eZ ah ah),yR (↑(2*k+1):Int),yB (2*k+1<(aj L).length) (by simp only [aD];omega),yB ((aj L)[2*k+1]?=some (aw (L.getD (2*k+1) 0))) (eG ah),yI (oK (↑(eW+1):Int) (L.getD (2*k) 0) (L.getD (2*k+1) 0)),yR (↑k:Int),yB (k<(aj (cH m L2 k)).length) (by simp only [aD];omega),yB ((aj (cH m L2 k)).set k (aw (jH (↑(eW+1):Int) (L.getD (2*k) 0) (L.getD (2*k+1) 0)))=aj ((cH m L2 k).set k (jH (↑(eW+1):Int) (L.getD (2*k) 0) (L.getD (2*k+1) 0)))) (km _ _ _),yB (k+1≤(aj (cH m L2 k)).length) (by simp only [aD];omega)]<|aM<|ak<|zX (yH [(0,yV (ai ((↑k:Int)+1)))]) [yN ((↑k:Int)+1)] (aI (k+1) ah ah (e_ [.aa [40,7,0,1,2,4,6,41] [11,38]] [] [38] [yB (aj ((cH m L2 k).set k (jH (↑(eW+1):Int) (L.getD (2*k) 0) (L.getD (2*k+1) 0)))=aj (cH m L2 (k+1))) (congrArg aj (by rw [←e2];exact e1))]))
 ·have e:k=m:=ah
  subst e
  have e1:=kG BW
  rw [e1]
  refine zE 4<|aY<|aN<|bm<|ak<|zX {} []<|aM<|ak<|zX (yH [(1,yV (ai ((↑eW:Int)+1)))]) [yN ((↑eW:Int)+1)] ?_
  exact ⟨rfl,bN.of [.vS 38 11,.aa [0,1,2,4,6] [11]] (s1:=AS.mk [(0,.val yv),(1,.ptr [ai (h:Int)] 0),(2,.ptr [aw seed] 0),(4,.ref 11),(6,ai ((eW:Int)+1))] [(11,Row.mk 1 true false (aj L2))]) bH (by unfold xj;rw [show ((eW+1:Nat):Int)=(eW:Int)+1 by omega])⟩
theorem Ex {P:Program} {x y z B:Code} {Q Q':Exit->Act->World->Prop} {K:Act->World->Prop} {a:Act} {w:World} (h:Bg P (.seq x (.seq y (.seq z .skip))) Q a w) (hQ:∀e a w,Q e a w->e= .normal∧K a w) (hB:∀a w,K a w->B.wp P Q' a w):(Code.seq x (.seq y (.seq z B))).wp P Q' a w:=by
 refine wp_seq (wp_mono (kq x _ _ _ h) fun e a w he=>?_)
 cases e with
 | normal =>
  refine wp_seq (wp_mono (kq y _ _ _ he) fun e a w he=>?_)
  cases e with
  | normal =>
   refine wp_seq (wp_mono (kq z _ _ _ he) fun e a w he=>?_)
   cases e with
   | normal=>exact hB _ _ (hQ _ _ _ he).2
   | _=>cases (hQ _ _ _ he).1
  | _=>cases (hQ _ _ _ he).1
 | _=>cases (hQ _ _ _ he).1
def la:Code->List Oper
 | .region _ ops _=>ops.toList
 | _=>[]
theorem Kf (yv:Value) (seed:UInt64) (h eW:Nat) (l:List UInt64):jS Tryz.prog 63 (la (hU (hU (fc (fc (dk (dk (dk (db Tryz.f142))))))))) [] ((la (hU (hU (fc (fc (dk (dk (dk (db Tryz.f142))))))))).take 3) 0 (xj yv seed h eW l) =
  some (AS.mk [(26,.ref 11),(25,ai (eW:Int)),(24,.val yv),(0,.val yv),(1,.ptr [ai (h:Int)] 0),(2,.ptr [aw seed] 0),(4,.ref 11),(6,ai (eW:Int))] [(11,Row.mk 1 true false (aj l))],[]):=by kernel_rfl
theorem Hh (yv:Value) (seed:UInt64) (h eW:Nat) (l:List UInt64):jS Tryz.prog 63 (la (hU (hU (fc (fc (dk (dk (dk (db Tryz.f142))))))))) [] ((la (hU (hU (fc (fc (dk (dk (dk (db Tryz.f142))))))))).drop 4) 4 (k9 (AS.mk [(26,.ref 11),(25,ai (eW:Int)),(24,.val yv),(0,.val yv),(1,.ptr [ai (h:Int)] 0),(2,.ptr [aw seed] 0),(4,.ref 11),(6,ai (eW:Int))] [(11,Row.mk 1 true false (aj l))]) 27 (ao true)) =
  some (AS.mk [(32,ao (decide ((eW:Int)<(h:Int)))),(31,ao (decide ((eW:Int)<(h:Int)))),(30,ai (h:Int)),(29,ai (eW:Int)),(28,ao true),(27,ao true),(26,.ref 11),(25,ai (eW:Int)),(24,.val yv),(0,.val yv),(1,.ptr [ai (h:Int)] 0),(2,.ptr [aw seed] 0),(4,.ref 11),(6,ai (eW:Int))] [(11,Row.mk 1 true false (aj l))],[true=true,true=true,true=true,true=true]):=by kernel_rfl
theorem Hi (yv:Value) (seed:UInt64) (h eW:Nat) (l:List UInt64):jS Tryz.prog 63 (la (hU (hU (fc (fc (dk (dk (dk (db Tryz.f142))))))))) [(5,{g:=false}),(6,{g:=false}),(7,{g:=false}),(8,{b:=false})] ((la (hU (hU (fc (fc (dk (dk (dk (db Tryz.f142))))))))).drop 4) 4 (k9 (AS.mk [(26,.ref 11),(25,ai (eW:Int)),(24,.val yv),(0,.val yv),(1,.ptr [ai (h:Int)] 0),(2,.ptr [aw seed] 0),(4,.ref 11),(6,ai (eW:Int))] [(11,Row.mk 1 true false (aj l))]) 27 (ao false)) =
  some (AS.mk [(32,ao false),(31,.val (.tuple #[])),(30,.val (.tuple #[])),(29,.val (.tuple #[])),(28,ao false),(27,ao false),(26,.ref 11),(25,ai (eW:Int)),(24,.val yv),(0,.val yv),(1,.ptr [ai (h:Int)] 0),(2,.ptr [aw seed] 0),(4,.ref 11),(6,ai (eW:Int))] [(11,Row.mk 1 true false (aj l))],[false=false,false=false,false=false,false=false]):=by kernel_rfl
theorem It.val {n:Nat} {J:(Nat->Prop)->(Nat->Prop)->World->Prop} {s:AS} {a:Act} {w:World} {x:Operand} {v:Value} (h:It n J s a w) (hx:bj s x= .val v):a.eval x=v:=by
 obtain ⟨wb,Z,φ,ms,h1,-⟩:=h
 exact bE (hx ▸ h1.bj x)
theorem zI (seed:UInt64) (h:Nat) (hh:h≤4):wJ Tryz.prog 142 [.ptr [ai (h:Int)] 0,.ptr [aw seed] 0] (fun i=>[ai (i:Int),.sl 1 (aj (kD seed h i))]) (h+1):=by
 refine wJ.pv (n:=63) Tryz.func142 (c:=(db Tryz.f142)) bH bH bH (by simp) ?_
 intro l J X hJ hX hy a w hit
 have eb:(db Tryz.f142)= .seq (hU (db Tryz.f142)) (.seq (hU (dk (db Tryz.f142))) (.seq (hU (dk (dk (db Tryz.f142)))) (dk (dk (dk (db Tryz.f142)))))):=by kernel_rfl
 have eB:dk (dk (dk (db Tryz.f142)))= .block 2 (.loop (.seq (.seq (.region 7 (la (hU (hU (fc (fc (dk (dk (dk (db Tryz.f142))))))))).toArray false) (.cond (.tmp 32) .skip (.exit 2))) (dk (fc (fc (dk (dk (dk (db Tryz.f142))))))))):=by kernel_rfl
 have Rr:=It.SH hit (hJ 0) (Ke (.func (.yield l) #[] #[]) seed h hh)
 rw [eb]
 refine Ex (K:=It 63 (J 0) (xj (.func (.yield l) #[] #[]) seed h 0 (kD seed h 0))) Rr (fun e a w ⟨s',⟨he,hw⟩,hi⟩=>⟨he,hi.ow (hJ 0) hw⟩) fun a w N7=>?_
 rw [eB]
 refine wp_block (DG (fun k a w=>∃eW,eW≤h∧k=h-eW∧It 63 (J eW) (xj (.func (.yield l) #[] #[]) seed h eW (kD seed h eW)) a w) h ⟨0,ah,ah,N7⟩ ?_)
 rintro k a w ⟨eW,RD,rfl,hit⟩
 refine wp_seq (wp_seq ?_)
 refine F9 (d:=27) (l1:=(la (hU (hU (fc (fc (dk (dk (dk (db Tryz.f142))))))))).take 3) (o:=((la (hU (hU (fc (fc (dk (dk (dk (db Tryz.f142))))))))).drop 3).headD default) (l2:=(la (hU (hU (fc (fc (dk (dk (dk (db Tryz.f142))))))))).drop 4) (y:=.tmp 24) (xs:= #[.tmp 25,.tmp 26]) (ts:= #[3,27]) bH bH bH bH (by rintro ⟨_,_,he,_⟩;rcases he with he|he<;>cases he) bH bH<|hit.ops (hJ eW) (Kf _ seed h eW _) trivial fun a1 w1 Qz=>⟨l,Qz.val (x:=.tmp 24) bH,?_⟩
 refine It.yield (d:=27) (xs:=[.tmp 25,.tmp 26]) hJ hX (by decide) hy Qz ah (s1:=AS.mk [(26,.sl 1 (aj (kD seed h eW))),(25,ai (eW:Int)),(24,.val (.func (.yield l) #[] #[])),(0,.val (.func (.yield l) #[] #[])),(1,.ptr [ai (h:Int)] 0),(2,.ptr [aw seed] 0),(4,.sl 1 (aj (kD seed h eW))),(6,ai (eW:Int))] []) bH bH bH _ (fun w2 dM=>?_) (fun w2 dM=>?_)
 ·refine dM.ops (hJ (eW+1)) (Hh _ seed h eW _) ⟨rfl,rfl,rfl,rfl,trivial⟩ fun a3 w3 N6=>?_
  have hv:=N6.val (x:=.tmp 32) (v:=.bool (decide ((eW:Int)<(h:Int)))) bH
  refine wp_cond_split hv (fun ht=>?_) (fun hf=>?_)
  ·have cW:eW<h:=by have:=of_decide_eq_true ht;omega
   refine wp_skip ?_
   have UI:=N6.ow (hJ (eW+1)) (s':=xj (.func (.yield l) #[] #[]) seed h eW (kD seed h eW)) (bN.of [.aa [0,1,2,4,6] [11]] bH rfl)
   refine wp_mono (kq _ _ _ _ (It.SH UI (hJ (eW+1)) (Hj _ seed h eW hh cW))) fun e a5 w5 ⟨s',⟨he,hw⟩,UH⟩=>?_
   subst he
   exact ⟨h-(eW+1),ah,eW+1,ah,rfl,UH.ow (hJ (eW+1)) hw⟩
  ·have u_:eW=h:=by have:=of_decide_eq_false hf;omega
   subst u_
   refine wp_exit ?_
   exact ⟨.inl rfl,_,.inl N6⟩
 ·refine dM.ops hX (Hi _ seed h eW _) ⟨rfl,rfl,rfl,rfl,trivial⟩ fun a3 w3 N6=>?_
  have hv:=N6.val (x:=.tmp 32) (v:=.bool false) bH
  refine wp_cond_false hv (wp_exit ?_)
  exact ⟨.inl rfl,_,.inr N6⟩
end Go.Proofs.YtjgbhhnghedgdaaGreatDoor
