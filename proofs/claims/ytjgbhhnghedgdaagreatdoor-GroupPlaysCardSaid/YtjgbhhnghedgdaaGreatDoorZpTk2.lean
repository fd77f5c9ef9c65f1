import Derived.Test.YtjgbhhnghedgdaaGreatDoorZpCb3
set_option linter.all false
namespace Go.Proofs.YtjgbhhnghedgdaaGreatDoor
open Go.RowKit
set_option maxRecDepth 100000
set_option maxHeartbeats 4000000
def OD (h:Int):Int:=if bz h then 9 else 0
def Jy (h:Int):Int:=if bz h then 0 else h
def Jx (seed:UInt64) (h:Int):UInt64:=if bz h then 0 else fV seed h.toNat 0
theorem vp (seed:UInt64) (h:Int):bK Tryz.prog 85 [aw seed,ai h] (.br [.agg [ai (Jy h),aw (Jx seed h)],ai (OD h)]):=by
 by_cases hb:bz h
 ·have e1:OD h=9:=if_pos hb
  have e2:Jy h=0:=if_pos hb
  have e3:Jx seed h=0:=if_pos hb
  refine zO Tryz.func85 15<|zq<|zS<|zP 1 [yH [(1,yV (ao (!decide (bz h))))]] [.aa [8,5,4,0,1] [4]] [yI (ck h)]<|dr 8 (!!decide (bz h)) (by simp_all)<|bf.pG 1 [{}] [.aa [5,8,4,0,1] [4]] bD (s':=AS.mk [(5,ai 9),(8,ao (!!decide (bz h))),(4,AV.addr 4 0),(0,aw seed),(1,ai h)] [(4,Row.mk 1 false true [ai 0,dW])]) (C:=[2≤2]) bD ⟨aj,trivial⟩<|dt (zV [yJ 0 (Jy h) (by rw [e2]),yK 0 (wv (Jx seed h)) (by rw [e3];rfl),yJ 9 (OD h) (by rw [e1])])
 ·have e1:OD h=0:=if_neg hb
  have e2:Jy h=h:=if_neg hb
  have e3:Jx seed h=fV seed h.toNat 0:=if_neg hb
  have q7:0≤h∧h≤4:=by unfold bz at hb;omega
  rw [e1,e2,e3]
  obtain ⟨k,rfl⟩:=Int.eq_ofNat_of_zero_le q7.1
  have hn:=rM seed k 0 aj (Nat.two_pow_pos _)
  rw [Int.toNat_natCast]
  generalize fV seed k 0=r at *
  refine zO Tryz.func85 15<|zq<|zS<|zP 1 [yH [(1,yV (ao (!decide (bz (↑k:Int)))))]] [.aa [8,5,4,0,1] [4]] [yI (ck ((↑k:Int)))]<|bj 8 (!!decide (bz (↑k:Int))) (by simp_all)<|a7<|zP 1 [yH [(3,yV (aw r))]] [.aa [5,8,4,0,1] [4]] [yI hn,yL 2 2]<|zR (bU)
theorem iA (leaf:Int) (h:Nat) (hh:h≤4):bK Tryz.prog 95 [ai leaf,ai h] (ao (decide (leaf<0∨((2^h:Nat):Int)≤leaf))):=by
 rcases (aj:h=0∨h=1∨h=2∨h=3∨h=4) with rfl|rfl|rfl|rfl|rfl
 ·by_cases h1:leaf<0
  ·refine zO Tryz.func95 13<|zP 2 [{},{}] [.aa [4,0,1] []] (yM 5 (yT (leaf<0)))<|zR (zV [yB (Value.bool true=Value.bool (decide (leaf<0∨(↑((2:Nat)^0):Int)≤leaf))) (by simp [h1])])
  ·refine zO Tryz.func95 13<|zP 2 [{},yH ([(7,{b:=false})]++yg [3,4,5,6])] [.aa [4,0,1] []] (yM 3 (yF (leaf<0))++ [yO ((0:Int)≤(↑(0:Nat):Int))]++yM 2 (yF (leaf<0)))<|zR (zV [yB (Value.bool (decide (leaf≥IntKind.i64.wrap ((1:Int)*(2:Int)^min (↑(0:Nat):Int).toNat IntKind.i64.bits)))=Value.bool (decide (leaf<0∨(↑((2:Nat)^0):Int)≤leaf))) (by simp [h1];rfl)])
 ·by_cases h1:leaf<0
  ·refine zO Tryz.func95 13<|zP 2 [{},{}] [.aa [4,0,1] []] (yM 5 (yT (leaf<0)))<|zR (zV [yB (Value.bool true=Value.bool (decide (leaf<0∨(↑((2:Nat)^1):Int)≤leaf))) (by simp [h1])])
  ·refine zO Tryz.func95 13<|zP 2 [{},yH ([(7,{b:=false})]++yg [3,4,5,6])] [.aa [4,0,1] []] (yM 3 (yF (leaf<0))++ [yO ((0:Int)≤(↑(1:Nat):Int))]++yM 2 (yF (leaf<0)))<|zR (zV [yB (Value.bool (decide (leaf≥IntKind.i64.wrap ((1:Int)*(2:Int)^min (↑(1:Nat):Int).toNat IntKind.i64.bits)))=Value.bool (decide (leaf<0∨(↑((2:Nat)^1):Int)≤leaf))) (by simp [h1];rfl)])
 ·by_cases h1:leaf<0
  ·refine zO Tryz.func95 13<|zP 2 [{},{}] [.aa [4,0,1] []] (yM 5 (yT (leaf<0)))<|zR (zV [yB (Value.bool true=Value.bool (decide (leaf<0∨(↑((2:Nat)^2):Int)≤leaf))) (by simp [h1])])
  ·refine zO Tryz.func95 13<|zP 2 [{},yH ([(7,{b:=false})]++yg [3,4,5,6])] [.aa [4,0,1] []] (yM 3 (yF (leaf<0))++ [yO ((0:Int)≤(↑(2:Nat):Int))]++yM 2 (yF (leaf<0)))<|zR (zV [yB (Value.bool (decide (leaf≥IntKind.i64.wrap ((1:Int)*(2:Int)^min (↑(2:Nat):Int).toNat IntKind.i64.bits)))=Value.bool (decide (leaf<0∨(↑((2:Nat)^2):Int)≤leaf))) (by simp [h1];rfl)])
 ·by_cases h1:leaf<0
  ·refine zO Tryz.func95 13<|zP 2 [{},{}] [.aa [4,0,1] []] (yM 5 (yT (leaf<0)))<|zR (zV [yB (Value.bool true=Value.bool (decide (leaf<0∨(↑((2:Nat)^3):Int)≤leaf))) (by simp [h1])])
  ·refine zO Tryz.func95 13<|zP 2 [{},yH ([(7,{b:=false})]++yg [3,4,5,6])] [.aa [4,0,1] []] (yM 3 (yF (leaf<0))++ [yO ((0:Int)≤(↑(3:Nat):Int))]++yM 2 (yF (leaf<0)))<|zR (zV [yB (Value.bool (decide (leaf≥IntKind.i64.wrap ((1:Int)*(2:Int)^min (↑(3:Nat):Int).toNat IntKind.i64.bits)))=Value.bool (decide (leaf<0∨(↑((2:Nat)^3):Int)≤leaf))) (by simp [h1];rfl)])
 ·by_cases h1:leaf<0
  ·refine zO Tryz.func95 13<|zP 2 [{},{}] [.aa [4,0,1] []] (yM 5 (yT (leaf<0)))<|zR (zV [yB (Value.bool true=Value.bool (decide (leaf<0∨(↑((2:Nat)^4):Int)≤leaf))) (by simp [h1])])
  ·refine zO Tryz.func95 13<|zP 2 [{},yH ([(7,{b:=false})]++yg [3,4,5,6])] [.aa [4,0,1] []] (yM 3 (yF (leaf<0))++ [yO ((0:Int)≤(↑(4:Nat):Int))]++yM 2 (yF (leaf<0)))<|zR (zV [yB (Value.bool (decide (leaf≥IntKind.i64.wrap ((1:Int)*(2:Int)^min (↑(4:Nat):Int).toNat IntKind.i64.bits)))=Value.bool (decide (leaf<0∨(↑((2:Nat)^4):Int)≤leaf))) (by simp [h1];rfl)])
theorem Kn (seed:UInt64) (h:Int):bK Tryz.prog 41 [aw seed,ai h] (.agg [ai (Jy h),aw (Jx seed h)]):=by
 refine zO Tryz.func41 14<|zP 3 [{},yH [(2,yV (AV.br [AV.agg [ai (Jy h),aw (Jx seed h)],ai (OD h)]))],{}] [.aa [5,4,0,1] [4,5]] [yI (vp seed h),yL 2 2,yL 2 2]<|zR (zV [yR (Value.int .i64 (Jy h)),yR (Value.int .u64 (wv (Jx seed h)))])
def dY (k:Nat):Mem:=⟨[109,u8 (48+(k:Int))],4,Jx (300+u64 k) 4,0⟩
theorem B5 (i:Int):bK Tryz.prog 18 [ai i] (.agg (aI (dY (fG i 10)))):=by
 have hm:=sM i (n:=10) aj
 have p2:Jy 4=4:=by decide
 refine zO Tryz.func18 16<|zP 2 [{},{hs:=[(1,yV (ai (↑(fG i (10:Int)):Int))),(2,yV (ai ((48:Int)+(↑(fG i (10:Int)):Int)))),(3,yV (ab (u8 ((48:Int)+(↑(fG i (10:Int)):Int))))),(4,yV (AV.arr (ag [u8 ((48:Int)+(↑(fG i (10:Int)):Int))]))),(5,yV (AV.val (Value.string (ByteArray.mk #[u8 ((48:Int)+(↑(fG i (10:Int)):Int))])))),(8,yV (ai (↑(fG i (10:Int)):Int))),(9,yV (aw (u64 (↑(fG i (10:Int)):Int)))),(10,yV (aw (300+u64 (↑(fG i (10:Int)):Int)))),(11,yV (AV.agg [ai (Jy (4:Int)),aw (Jx (300+u64 (↑(fG i (10:Int)):Int)) (4:Int))]))],T:=12}] [.aa [2,0] [2]] [yI (sL i ((10:Int)) aj aj),yN ((48:Int)+(↑(fG i (10:Int)):Int)),yI (iW ((48:Int)+(↑(fG i (10:Int)):Int))),yR [ab (u8 ((48:Int)+(↑(fG i (10:Int)):Int)))],yR (ag [u8 ((48:Int)+(↑(fG i (10:Int)):Int))]),yB ((ByteArray.mk #[109]).size+(ByteArray.mk #[u8 ((48:Int)+(↑(fG i (10:Int)):Int))]).size≤9223372036854775807) (Nat.le_of_ble_eq_true rfl),yI (sL i ((10:Int)) aj aj),yI (a8 (↑(fG i (10:Int)):Int)),yR (aw (300+u64 (↑(fG i (10:Int)):Int))),yI (Kn (300+u64 (↑(fG i (10:Int)):Int)) ((4:Int))),yL 4 4]<|zR (zV [yR (Value.string (ByteArray.mk (dY (fG i (10:Int))).name.toArray)),yR (Value.int .i64 (Jy (4:Int))),yR (Value.int .u64 (wv (dY (fG i (10:Int))).r)),yR (Value.int .u64 0)])
theorem OK {i:Nat} (h:i<10):fG (i:Int) 10=i:=by
 unfold fG
 rw [Int.emod_eq_of_lt aj aj,Int.emod_eq_of_lt aj aj,Int.toNat_natCast]
theorem fK (i:Nat) (h:i<10):bK Tryz.prog 18 [ai i] (.agg (aI (dY i))):=by
 have:=B5 i
 rwa [OK h] at this
def Si (g:gB):List AV:=[ai g.aA,aw g.head,ai g.bt,.own 4 (af aI g.al),.own 7 (af bg g.aJ)]
theorem hU (h:Int) (r:UInt64):bK Tryz.prog 43 [.agg [ai h,aw r]] (.br [.own 1 (ag (dc h r)),ai (eT h)]):=by
 have hw:(words [r]).length=8:=by rw [dN];rfl
 by_cases h1:bz h
 ·have e:eT h=9:=by rw [eT,if_pos h1]
  have ed:dc h r= []:=by rw [dc,if_pos h1]
  refine zO Tryz.func43 16<|zq<|zS<|zQ 1 [yH [(2,yV (ao (decide (bz h))))]] [yI (g_ h)]<|ib 6 (bz h)<|zq<|dt (zV [yB (ag (dc h r)= []) (by rw [ed];rfl),yJ 9 (eT h) (by rw [e])])
 ·have e:eT h=0:=by rw [eT,if_neg h1]
  have ed:dc h r=u8 h::words [r]:=by rw [dc,if_neg h1]
  refine zO Tryz.func43 16<|zq<|zS<|zQ 1 [yH [(2,yV (ao (decide (bz h))))]] [yI (g_ h)]<|dp 6 (bz h)<|a7<|zS<|P9 8 [3] [(2,yV (ab (u8 h))),(3,yV (AV.arr (ag [u8 h]))),(6,yV (AV.arr (ah [r]))),(7,yV (AV.own 1 (ag (words [r])))),(8,yV (AV.arr (ag ([u8 h]++words [r]))))] [yI (iW h),yR [ab (u8 h)],yI (aQ [u8 h]),yR [aw r],yI (lD [r] (by simp only [List.length_cons,List.length_nil];omega)),yI (aQ (words [r])),yR (ag ([u8 h]++words [r])),yL 9 140737488355328]<|ak<|bf.rG [.aa [3,2,6,1,0] [15,1]] bD<|zR (zV [yB (ag ([u8 h]++words [r])=ag (dc h r)) (by rw [ed];rfl),yJ 0 (eT h) (by rw [e])])
theorem gF (h:Int) (r:UInt64):bK Tryz.prog 47 [.agg [ai h,aw r]] (.br [.own 1 (ag (dc h r)),ai (eT h)]):=by
 have hw:(words [r]).length=8:=by rw [dN];rfl
 by_cases h1:bz h
 ·have e:eT h=9:=by rw [eT,if_pos h1]
  have ed:dc h r= []:=by rw [dc,if_pos h1]
  refine zO Tryz.func47 17<|zq<|zS<|zP 1 [yH [(2,yV (ao (!decide (bz h))))]] [.aa [7,3,2,1,0] [1]] [yI (ck h)]<|dr 7 (!!decide (bz h)) (by simp_all)<|zq<|dt (zV [yB (ag (dc h r)= []) (by rw [ed];rfl),yJ 9 (eT h) (by rw [e])])
 ·have e:eT h=0:=by rw [eT,if_neg h1]
  have ed:dc h r=u8 h::words [r]:=by rw [dc,if_neg h1]
  refine zO Tryz.func47 17<|zq<|zS<|zP 1 [yH [(2,yV (ao (!decide (bz h))))]] [.aa [7,3,2,1,0] [1]] [yI (ck h)]<|bj 7 (!!decide (bz h)) (by simp_all)<|a7<|zS<|P9 8 [3] [(2,yV (ab (u8 h))),(3,yV (AV.arr (ag [u8 h]))),(6,yV (AV.arr (ah [r]))),(7,yV (AV.own 1 (ag (words [r])))),(8,yV (AV.arr (ag ([u8 h]++words [r]))))] [yI (iW h),yR [ab (u8 h)],yI (aQ [u8 h]),yR [aw r],yI (dv [r] (by simp only [List.length_cons,List.length_nil];omega)),yI (aQ (words [r])),yR (ag ([u8 h]++words [r])),yL 9 140737488355328]<|ak<|bf.rG [.aa [3,2,7,1,0] [16,1]] bD<|zR (zV [yB (ag ([u8 h]++words [r])=ag (dc h r)) (by rw [ed];rfl),yJ 0 (eT h) (by rw [e])])
structure gA where
 name:List UInt8
 leaf:Int
 fU:List UInt64
 path:List UInt64
def aU (v:gA):List AV:=[cZ v.name,ai v.leaf,.sl 1 (ah v.fU),.sl 1 (ah v.path)]
structure fo where
 aA:Int
 prev:UInt64
 kind:Int
 name:List UInt8
 kh:Int
 kr:UInt64
 bt:Int
 dep:mU
 bF:UInt64
 target:UInt64
 aq:List gA
def bX (e:fo):List AV:=[ai e.aA,aw e.prev,ai e.kind,cZ e.name,ai e.kh,aw e.kr,ai e.bt,aw e.dep.bF,aw e.dep.peer,.sl 1 (ag e.dep.box),.sl 1 (af ay e.dep.ae),.sl 1 (ah e.dep.au),ai e.dep.need,aw e.dep.target,aw e.bF,aw e.target,.sl 4 (af aU e.aq)]
theorem er (x:List UInt8) (hx:x.length≤1000):bK Tryz.prog 42 [cZ x] (ai (dV x)):=by
 by_cases c1:x.length<1
 ·have e:=pQ (.inl c1)
  refine zO Tryz.func42 14<|zq<|zS<|zP 1 [yH [(1,yV (ai (↑x.length:Int)))]] [.aa [10,2,0] []] ([yR (ai (↑x.length:Int))]++yM 4 (yT ((↑x.length:Int)<1)))<|zT 10<|zq<|dt (zV [yJ 9 (dV x) (by rw [e])])
 by_cases c3:32<x.length
 ·have e:=pQ (.inr c3)
  refine zO Tryz.func42 14<|zq<|zS<|zP 1 [yH ([(1,yV (ai (↑x.length:Int))),(5,{av:=some (ai (↑x.length:Int)),g:=false}),(7,{b:=false})]++yg [4,6])] [.aa [10,2,0] []] ([yR (ai (↑x.length:Int))]++yM 2 (yF ((↑x.length:Int)<1))++ [yR (ai (↑x.length:Int))]++yM 2 (yF ((↑x.length:Int)<1)))<|ib 10 ((↑x.length:Int)>32)<|zq<|dt (zV [yJ 9 (dV x) (by rw [e])])
 by_cases c2:Lib.validD x=false
 ·have e:=xq aj c2
  refine zO Tryz.func42 14<|zq<|zS<|zP 1 [yH ([(1,yV (ai (↑x.length:Int))),(5,{av:=some (ai (↑x.length:Int)),g:=false}),(7,{b:=false})]++yg [4,6])] [.aa [10,2,0] []] ([yR (ai (↑x.length:Int))]++yM 2 (yF ((↑x.length:Int)<1))++ [yR (ai (↑x.length:Int))]++yM 2 (yF ((↑x.length:Int)<1)))<|dp 10 ((↑x.length:Int)>32)<|a7<|zS<|zP 1 [yH [(1,yV (ao (Lib.validD x))),(2,yV (ao true))]] [.aa [13,10,2,0] []] [yI (kb x aj),yB (ao (!Lib.validD x)=ao true) (by rw [c2];rfl)]<|zT 13<|zq<|dt (zV [yJ 6 (dV x) (by rw [e])])
 have c4:Lib.validD x=true:=by simpa using c2
 have e:=DR aj c4
 refine zO Tryz.func42 14<|zq<|zS<|zP 1 [yH ([(1,yV (ai (↑x.length:Int))),(5,{av:=some (ai (↑x.length:Int)),g:=false}),(7,{b:=false})]++yg [4,6])] [.aa [10,2,0] []] ([yR (ai (↑x.length:Int))]++yM 2 (yF ((↑x.length:Int)<1))++ [yR (ai (↑x.length:Int))]++yM 2 (yF ((↑x.length:Int)<1)))<|dp 10 ((↑x.length:Int)>32)<|a7<|zS<|zP 1 [yH [(1,yV (ao (Lib.validD x))),(2,yV (ao false))]] [.aa [13,10,2,0] []] [yI (kb x aj),yB (ao (!Lib.validD x)=ao false) (by rw [c4];rfl)]<|zF 13<|a7<|zq<|zR (zV [yJ 0 (dV x) (by rw [e])])
def ie (m:Mem):Int:=if dV m.name≠0 then dV m.name else if eT m.h≠0 then eT m.h else if m.used≠0 then 18 else 0
def da (m:Mem):gB:=if ie m=0 then ⟨0,hash 16 (dc m.h m.r++m.name),1,[m],[]⟩ else ⟨0,0,0,[],[]⟩
instance:Inhabited gB:=⟨⟨0,0,0,[],[]⟩⟩
theorem nm (h:Int) (r:UInt64):(dc h r).length≤9:=by
 unfold dc
 split
 ·exact Nat.zero_le _
 ·have:(words [r]).length=8:=by rw [dN];rfl
  rw [List.length_cons];omega
theorem Bf (a b:List UInt8) (h:a.length+b.length≤1000000):bK Tryz.prog 45 [.sl 1 [.sl 1 (ag a),.sl 1 (ag b)]] (.own 1 (ag (a++b))):=by
 have:=Db [a,b] (by simp [fk];omega) (by simp)
 rw [show [a,b].flatten=a++b by simp] at this
 exact this
theorem AM (m:Mem) (hm:m.name.length≤1000):bK Tryz.prog 19 [.agg (aI m)] (.br [.agg (Si (da m)),ai (ie m)]):=by
 have hz:=qA m.name hm
 by_cases h1:dV m.name=0
 case neg =>
  have e1:ie m=dV m.name:=if_pos h1
  have e2:da m=⟨0,0,0,[],[]⟩:=by unfold da;rw [if_neg aj]
  refine zO Tryz.func19 40<|zq<|zS<|zP 2 [yH [(2,yV (ai (dV m.name)))],yH [(1,yV (ao true))]] [.aa [12,4,3,2,1,0] [2,1]] [yI (er m.name hm),yB (ao (dV m.name != (0:Int))=ao true) (by simp [h1])]<|zT 12<|zP 1 [{}] [.aa [3,12,4,2,1,0] [2,1]] [yL 5 5]<|dt (zV [yJ 0 ((da m).aA) (by rw [e2]),yK 0 (wv (da m).head) (by rw [e2];rfl),yJ 0 ((da m).bt) (by rw [e2]),yB (af aI (da m).al= []) (by rw [e2];rfl),yB (af bg (da m).aJ= []) (by rw [e2];rfl),yJ (dV m.name) (ie m) (by rw [e1])])
 by_cases h2:eT m.h=0
 case neg =>
  have e1:ie m=eT m.h:=by unfold ie;rw [if_neg aj,if_pos h2]
  have e2:da m=⟨0,0,0,[],[]⟩:=by unfold da;rw [if_neg aj]
  refine zO Tryz.func19 40<|zq<|zS<|zP 2 [yH [(2,yV (ai (dV m.name)))],yH [(1,yV (ao false))]] [.aa [12,4,3,2,1,0] [2,1]] [yI (er m.name hm),yB (ao (dV m.name != (0:Int))=ao false) (by simp [h1])]<|zF 12<|a7<|zP 1 [yH [(2,yV (AV.br [AV.own 1 (ag (dc m.h m.r)),ai (eT m.h)]))]] [.aa [6,5,12,4,3,2,1,0] [1018,2,1]] [yI (hU m.h m.r),yI (aQ (dc m.h m.r))]<|zS<|zQ 1 [yH [(1,yV (ao true))]] [yB (ao (eT m.h != (0:Int))=ao true) (by simp [h2])]<|zT 22<|zP 1 [{}] [.aa [3,22,6,5,12,4,2,1,0] [2,1018,1]] [yL 5 5]<|dt (zV [yJ 0 ((da m).aA) (by rw [e2]),yK 0 (wv (da m).head) (by rw [e2];rfl),yJ 0 ((da m).bt) (by rw [e2]),yB (af aI (da m).al= []) (by rw [e2];rfl),yB (af bg (da m).aJ= []) (by rw [e2];rfl),yJ (eT m.h) (ie m) (by rw [e1])])
 by_cases h3:m.used=0
 case neg =>
  have e1:ie m=18:=by unfold ie;rw [if_neg aj,if_neg aj,if_pos h3]
  have e2:da m=⟨0,0,0,[],[]⟩:=by unfold da;rw [if_neg aj]
  refine zO Tryz.func19 40<|zq<|zS<|zP 2 [yH [(2,yV (ai (dV m.name)))],yH [(1,yV (ao false))]] [.aa [12,4,3,2,1,0] [2,1]] [yI (er m.name hm),yB (ao (dV m.name != (0:Int))=ao false) (by simp [h1])]<|zF 12<|a7<|zP 1 [yH [(2,yV (AV.br [AV.own 1 (ag (dc m.h m.r)),ai (eT m.h)]))]] [.aa [6,5,12,4,3,2,1,0] [1018,2,1]] [yI (hU m.h m.r),yI (aQ (dc m.h m.r))]<|zS<|zQ 1 [yH [(1,yV (ao false))]] [yB (ao (eT m.h != (0:Int))=ao false) (by simp [h2])]<|zF 22<|a7<|zS<|zP 1 [yH [(2,yV (ao (m.used != 0)))]] [.aa [27,22,6,5,12,4,3,2,1,0] [1018,2,1]] [yI (cI m.used 0)]<|dr 27 (m.used != 0) (by simp_all)<|zP 1 [{}] [.aa [3,27,22,6,5,12,4,2,1,0] [2,1018,1]] [yL 5 5]<|dt (zV [yJ 0 ((da m).aA) (by rw [e2]),yK 0 (wv (da m).head) (by rw [e2];rfl),yJ 0 ((da m).bt) (by rw [e2]),yB (af aI (da m).al= []) (by rw [e2];rfl),yB (af bg (da m).aJ= []) (by rw [e2];rfl),yJ 18 (ie m) (by rw [e1])])
 have e1:ie m=0:=by unfold ie;rw [if_neg aj,if_neg aj,if_neg (by simp [h3])]
 have e2:da m=⟨0,hash 16 (dc m.h m.r++m.name),1,[m],[]⟩:=by unfold da;rw [if_pos e1]
 have hk:=nm m.h m.r
 refine zO Tryz.func19 40<|zq<|zS<|zP 2 [yH [(2,yV (ai (dV m.name)))],yH [(1,yV (ao false))]] [.aa [12,4,3,2,1,0] [2,1]] [yI (er m.name hm),yB (ao (dV m.name != (0:Int))=ao false) (by simp [h1])]<|zF 12<|a7<|zP 1 [yH [(2,yV (AV.br [AV.own 1 (ag (dc m.h m.r)),ai (eT m.h)]))]] [.aa [6,5,12,4,3,2,1,0] [1018,2,1]] [yI (hU m.h m.r),yI (aQ (dc m.h m.r))]<|zS<|zQ 1 [yH [(1,yV (ao false))]] [yB (ao (eT m.h != (0:Int))=ao false) (by simp [h2])]<|zF 22<|a7<|zS<|zP 1 [yH [(2,yV (ao (m.used != 0)))]] [.aa [27,22,6,5,12,4,3,2,1,0] [1018,2,1]] [yI (cI m.used 0)]<|bj 27 (m.used != 0) (by simp_all)<|a7<|zP 2 [yH [(5,yV (AV.own 1 (ag (dc m.h m.r++m.name.toArray.toList)))),(6,yV (aw (hash (16:Int) (dc m.h m.r++m.name.toArray.toList))))],{}] [.aa [3,7,27,22,6,5,12,4,2,1,0] [2,38,1]] [yI hz,yI (Bf (dc m.h m.r) m.name.toArray.toList (by simp only [];omega)),yI (aQ (dc m.h m.r++m.name.toArray.toList)),yI (nv ((16:Int)) (dc m.h m.r++m.name.toArray.toList)),yL 5 5]<|zR (zV [yJ 0 ((da m).aA) (by rw [e2]),yK (wv (hash (16:Int) (dc m.h m.r++m.name.toArray.toList))) (wv (da m).head) (by rw [e2]),yJ 1 ((da m).bt) (by rw [e2]),yB ((aI m)=af aI (da m).al) (by rw [e2];rfl),yB (af bg (da m).aJ= []) (by rw [e2];rfl),yJ 0 (ie m) (by rw [e1])])
def Sj (g:gB):List AV:=[ai g.aA,aw g.head,ai g.bt,.sl 4 (af aI g.al),.own 7 (af bg g.aJ)]
theorem BQ (m:Mem) (hm:m.name.length≤1000):bK Tryz.prog 20 [.agg (aI m)] (.br [.agg (Sj (da m)),ai (ie m)]):=by
 have hz:=qA m.name hm
 by_cases h1:dV m.name=0
 case neg =>
  have e1:ie m=dV m.name:=if_pos h1
  have e2:da m=⟨0,0,0,[],[]⟩:=by unfold da;rw [if_neg aj]
  refine zO Tryz.func20 36<|zq<|zS<|zP 2 [yH [(2,yV (ai (dV m.name)))],yH [(1,yV (ao true))]] [.aa [11,4,3,2,1,0] [2,1]] [yI (fz m.name hm),yB (ao (dV m.name != (0:Int))=ao true) (by simp [h1])]<|zT 11<|zP 1 [{}] [.aa [3,11,4,2,1,0] [2,1]] [yL 5 5]<|dt (zV [yJ 0 ((da m).aA) (by rw [e2]),yK 0 (wv (da m).head) (by rw [e2];rfl),yJ 0 ((da m).bt) (by rw [e2]),yB (af aI (da m).al= []) (by rw [e2];rfl),yB (af bg (da m).aJ= []) (by rw [e2];rfl),yJ (dV m.name) (ie m) (by rw [e1])])
 by_cases h2:eT m.h=0
 case neg =>
  have e1:ie m=eT m.h:=by unfold ie;rw [if_neg aj,if_pos h2]
  have e2:da m=⟨0,0,0,[],[]⟩:=by unfold da;rw [if_neg aj]
  refine zO Tryz.func20 36<|zq<|zS<|zP 2 [yH [(2,yV (ai (dV m.name)))],yH [(1,yV (ao false))]] [.aa [11,4,3,2,1,0] [2,1]] [yI (fz m.name hm),yB (ao (dV m.name != (0:Int))=ao false) (by simp [h1])]<|zF 11<|a7<|zP 1 [yH [(2,yV (AV.br [AV.own 1 (ag (dc m.h m.r)),ai (eT m.h)]))]] [.aa [6,5,11,4,3,2,1,0] [1017,2,1]] [yI (gF m.h m.r),yI (aQ (dc m.h m.r))]<|zS<|zQ 1 [yH [(1,yV (ao true))]] [yB (ao (eT m.h != (0:Int))=ao true) (by simp [h2])]<|zT 21<|zP 1 [{}] [.aa [3,21,6,5,11,4,2,1,0] [2,1017,1]] [yL 5 5]<|dt (zV [yJ 0 ((da m).aA) (by rw [e2]),yK 0 (wv (da m).head) (by rw [e2];rfl),yJ 0 ((da m).bt) (by rw [e2]),yB (af aI (da m).al= []) (by rw [e2];rfl),yB (af bg (da m).aJ= []) (by rw [e2];rfl),yJ (eT m.h) (ie m) (by rw [e1])])
 by_cases h3:m.used=0
 case neg =>
  have e1:ie m=18:=by unfold ie;rw [if_neg aj,if_neg aj,if_pos h3]
  have e2:da m=⟨0,0,0,[],[]⟩:=by unfold da;rw [if_neg aj]
  refine zO Tryz.func20 36<|zq<|zS<|zP 2 [yH [(2,yV (ai (dV m.name)))],yH [(1,yV (ao false))]] [.aa [11,4,3,2,1,0] [2,1]] [yI (fz m.name hm),yB (ao (dV m.name != (0:Int))=ao false) (by simp [h1])]<|zF 11<|a7<|zP 1 [yH [(2,yV (AV.br [AV.own 1 (ag (dc m.h m.r)),ai (eT m.h)]))]] [.aa [6,5,11,4,3,2,1,0] [1017,2,1]] [yI (gF m.h m.r),yI (aQ (dc m.h m.r))]<|zS<|zQ 1 [yH [(1,yV (ao false))]] [yB (ao (eT m.h != (0:Int))=ao false) (by simp [h2])]<|zF 21<|a7<|zS<|zP 1 [yH [(2,yV (ao (m.used != 0)))]] [.aa [26,21,6,5,11,4,3,2,1,0] [1017,2,1]] [yI (cI m.used 0)]<|dr 26 (m.used != 0) (by simp_all)<|zP 1 [{}] [.aa [3,26,21,6,5,11,4,2,1,0] [2,1017,1]] [yL 5 5]<|dt (zV [yJ 0 ((da m).aA) (by rw [e2]),yK 0 (wv (da m).head) (by rw [e2];rfl),yJ 0 ((da m).bt) (by rw [e2]),yB (af aI (da m).al= []) (by rw [e2];rfl),yB (af bg (da m).aJ= []) (by rw [e2];rfl),yJ 18 (ie m) (by rw [e1])])
 have e1:ie m=0:=by unfold ie;rw [if_neg aj,if_neg aj,if_neg (by simp [h3])]
 have e2:da m=⟨0,hash 16 (dc m.h m.r++m.name),1,[m],[]⟩:=by unfold da;rw [if_pos e1]
 have hk:=nm m.h m.r
 have RE:(ag (dc m.h m.r)).length≤9:=by rw [aC];exact hk
 have wA:(ag m.name.toArray.toList).length≤1000:=by rw [aC];exact hm
 refine zO Tryz.func20 36<|zq<|zS<|zP 2 [yH [(2,yV (ai (dV m.name)))],yH [(1,yV (ao false))]] [.aa [11,4,3,2,1,0] [2,1]] [yI (fz m.name hm),yB (ao (dV m.name != (0:Int))=ao false) (by simp [h1])]<|zF 11<|a7<|zP 1 [yH [(2,yV (AV.br [AV.own 1 (ag (dc m.h m.r)),ai (eT m.h)]))]] [.aa [6,5,11,4,3,2,1,0] [1017,2,1]] [yI (gF m.h m.r),yI (aQ (dc m.h m.r))]<|zS<|zQ 1 [yH [(1,yV (ao false))]] [yB (ao (eT m.h != (0:Int))=ao false) (by simp [h2])]<|zF 21<|a7<|zS<|zP 1 [yH [(2,yV (ao (m.used != 0)))]] [.aa [26,21,6,5,11,4,3,2,1,0] [1017,2,1]] [yI (cI m.used 0)]<|bj 26 (m.used != 0) (by simp_all)<|a7<|zS<|Bu 7 [3] [(3,{av:=some (AV.arr (ag (dc m.h m.r++m.name.toArray.toList))),b:=false}),(4,yV (aw (hash (16:Int) (dc m.h m.r++m.name.toArray.toList))))] [yB (ag (dc m.h m.r)++ag m.name.toArray.toList=ag (dc m.h m.r++m.name.toArray.toList)) (cX _ _),yB (cH (ag m.name.toArray.toList)) (fQ _),yO (((ag (dc m.h m.r)).length+(ag m.name.toArray.toList).length)*1≤140737488355328),yI (iy ((16:Int)) (dc m.h m.r++m.name.toArray.toList) (by simp only [List.length_append];omega)),yR (AV.agg (aI m)),yR (AV.sl 4 (aI m)),yL 5 5]<|ak<|bf.rG [.aa [3,26,21,6,11,4,2,1,0] [2,1]] bD<|zR (zV [yJ 0 ((da m).aA) (by rw [e2]),yK (wv (hash (16:Int) (dc m.h m.r++m.name.toArray.toList))) (wv (da m).head) (by rw [e2]),yJ 1 ((da m).bt) (by rw [e2]),yB ((aI m)=af aI (da m).al) (by rw [e2];rfl),yB (af bg (da m).aJ= []) (by rw [e2];rfl),yJ 0 (ie m) (by rw [e1])])
theorem mg {l:List Mem} {i:Nat} (h:i<l.length):List.take 4 (List.drop (i*4) (af aI l))=aI (l.getD i default):=km (e:=4) (fun _=>rfl) h
theorem zm (g:gB) (hm:g.al.length≤1000000) (hd:g.aJ.length≤1000000) (hh:∀d∈g.aJ,d.ae.length≤1000000):bK Tryz.prog 21 [.agg (bV g),.agg (bV g)] (ao true):=by
 have l0:(af aI g.al).length=g.al.length*4:=aE (e:=4) (fun _=>rfl) ..
 have qt:(af bg g.aJ).length=g.aJ.length*7:=aE (e:=7) (fun _=>rfl) ..
 refine zO Tryz.func21 81<|zq<|zS<|zP 1 [yH ([(10,{av:=some (ao (g.head != g.head)),g:=false}),(11,{b:=false}),(18,{b:=false}),(22,{k:=g.al.length,g:=false}),(25,{k:=g.al.length,g:=false}),(27,{b:=false}),(31,{k:=g.aJ.length,g:=false}),(34,{k:=g.aJ.length,g:=false}),(36,{b:=false})]++yg [6,7,8,9,13,14,15,16,17,20,21,23,24,26,29,30,32,33,35])] [.aa [43,4,3,2,0,1] [3,2]] (yM 5 (yS ((g.aA != g.aA)=false))++ [yS (ao (wv g.head != wv g.head)=ao (g.head != g.head)),yS ((g.aA != g.aA)=false)]++yM 6 (yS ((g.head != g.head)=false))++yM 3 (yS ((g.bt != g.bt)=false))++ [yI l0]++yM 3 (yS ((g.bt != g.bt)=false))++ [yI l0]++yM 2 (yS ((g.bt != g.bt)=false))++yM 3 (yS (((↑g.al.length:Int) != (↑g.al.length:Int))=false))++ [yI qt]++yM 3 (yS (((↑g.al.length:Int) != (↑g.al.length:Int))=false))++ [yI qt]++yM 2 (yS (((↑g.al.length:Int) != (↑g.al.length:Int))=false)))<|bj 43 ((↑g.aJ.length:Int) != (↑g.aJ.length:Int)) (by simp_all)<|a7<|zS<|zq<|zB 0 (zL (fun (i:Nat)=>(⟨[(43,ao ((↑g.aJ.length:Int) != (↑g.aJ.length:Int))),(3,AV.addr 3 0),(2,AV.addr 2 0),(0,AV.agg (bV g)),(1,AV.agg (bV g)),(5,ai i)],[(3,⟨1,false,true,(bV g)⟩),(2,⟨1,false,true,List.map (aR 3) (List.map (aR 2) (bV g))⟩)]⟩:AS)) (fun i=>(i≤g.al.length)) (fun i=>(g.al.length-i)) (0) ?_ (zW [.aa [43,3,2,0,1,5] [3,2]]) ?_)
 ·omega
 intro i hi
 refine zS<|zP 1 [yH [(3,{k:=g.al.length})]] [.aa [48,43,3,2,0,1,5] [3,2]] [yI l0] (zD 48 ((↑i:Int)<(↑g.al.length:Int)) (fun h=>?_) (fun h=>?_))
 ·have dD:i<g.al.length:=aj
  have gT:=mg dD
  refine a7<|zS<|zB 1<|zP 1 [{hs:=[(3,{k:=i}),(4,yV (AV.agg (aI (g.al.getD i default)))),(8,{k:=i}),(9,yV (AV.agg (aI (g.al.getD i default))))],T:=10}] [.aa [61,48,43,3,2,0,1,5] [3,2]] [yR (↑i:Int),yO (i*4<(af aI g.al).length),yu aI g.al i 0 4,yR 4,yR (↑i:Int),yO (i*4<(af aI g.al).length),yu aI g.al i 0 4,yR 4]<|bj 61 (!((ByteArray.mk (g.al.getD i default).name.toArray).toList == (ByteArray.mk (g.al.getD i default).name.toArray).toList && ((g.al.getD i default).h == (g.al.getD i default).h && (wv (g.al.getD i default).r == wv (g.al.getD i default).r && true) && (wv (g.al.getD i default).used == wv (g.al.getD i default).used && true)))) (by simp_all)<|zK<|aL<|ak<|zX (yH [(1,yV (ai ((↑i:Int)+1)))]) [yN ((↑i:Int)+1)] (aH (i+1) (by assumption) aj (zW [.aa [43,3,2,0,1,5] [3,2]]))
 ·skip
  refine zE 0<|a_<|aP<|bo<|ak<|zS<|zq<|zB 2 (zL (fun (j:Nat)=>(⟨[(48,ao (decide ((↑i:Int)<(↑g.al.length:Int)))),(43,ao ((↑g.aJ.length:Int) != (↑g.aJ.length:Int))),(3,AV.addr 3 0),(2,AV.addr 2 0),(0,AV.agg (bV g)),(1,AV.agg (bV g)),(5,ai ↑i),(6,ai j)],[(3,⟨1,false,true,(bV g)⟩),(2,⟨1,false,true,List.map (aR 3) (List.map (aR 2) (bV g))⟩)]⟩:AS)) (fun j=>(j≤g.aJ.length)) (fun j=>(g.aJ.length-j)) (0) ?_ (zW [.aa [48,43,3,2,0,1,5,6] [3,2]]) ?_)
  ·omega
  intro j hj
  refine zS<|zP 1 [yH [(3,{k:=g.aJ.length})]] [.aa [66,48,43,3,2,0,1,5,6] [3,2]] [yI qt] (zD 66 ((↑j:Int)<(↑g.aJ.length:Int)) (fun h2=>?_) (fun h2=>?_))
  ·have xK:j<g.aJ.length:=aj
   have Uz:(g.aJ.getD j default).ae.length≤1000000:=hh _ (by rw [List.getD_eq_getElem?_getD,List.getElem?_eq_getElem xK];exact List.getElem_mem xK)
   have hs:=zn (g.aJ.getD j default) Uz
   refine a7<|zS<|zB 3<|zP 1 [{hs:=[(3,{k:=j}),(4,yV (AV.agg (bg (g.aJ.getD j default)))),(8,{k:=j}),(9,yV (AV.agg (bg (g.aJ.getD j default)))),(10,yV (ao true))],T:=10}] [.aa [80,66,48,43,3,2,0,1,5,6] [3,2]] [yR (↑j:Int),yO (j*7<(af bg g.aJ).length),yu bg g.aJ j 0 7,yR 7,yR (↑j:Int),yO (j*7<(af bg g.aJ).length),yu bg g.aJ j 0 7,yR 7,yI hs]<|zF 80<|zK<|aL<|ak<|zX (yH [(1,yV (ai ((↑j:Int)+1)))]) [yN ((↑j:Int)+1)] (aH (j+1) (by assumption) aj (zW [.aa [48,43,3,2,0,1,5,6] [3,2]]))
  ·skip
   refine zE 2<|a_<|aP<|bo<|ak<|zq<|zR (bU)
def uY (d:mU):Prop:=d.bF=0∧d.peer=0∧d.box.length=0∧d.ae.length=0∧d.au.length=0∧d.need=0∧d.target=0
instance (d:mU):Decidable (uY d):=inferInstanceAs (Decidable (_∧_∧_∧_∧_∧_∧_))
def fa (e:fo):Prop:=(e.kind=1∨e.kind=2∨e.name= [])∧(e.kind=1∨e.kh=0∧e.kr=0)∧(e.kind=3∨e.bt=0)∧(e.kind=4∨uY e.dep)∧(e.kind=5∨e.bF=0∧e.target=0)∧e.dep.target=0
instance (e:fo):Decidable (fa e):=inferInstanceAs (Decidable (_∧_∧_∧_∧_∧_))
def fC (d:mU):Int:=if 1024<d.box.length then 8 else if nD d.ae.length d.need then 9 else if d.au.length≠d.ae.length then 4 else ff (mu d.ae) d.ae.length
def uZ (d:mU):List fE:=[aF d.bF,aF d.peer,dQ d.box]++(bC (u64 d.ae.length)::d.ae.map cy)++(bC (u64 d.au.length)::d.au.map aF)++ [aF (u64 d.need)]
def eW (e:fo):Int:=if e.kind=1 then (if dV e.name≠0 then dV e.name else eT e.kh) else if e.kind=2 then dV e.name else if e.kind=3 then (if e.bt<1∨8<e.bt then 9 else 0) else if e.kind=4 then fC e.dep else if e.target=0 then 9 else 0
def ga (e:fo):List fE:=if e.kind=1 then [cy e.name,dQ (dc e.kh e.kr)] else if e.kind=2 then [cy e.name] else if e.kind=3 then [aF (u64 e.bt)] else if e.kind=4 then uZ e.dep else [aF e.bF,aF e.target]
def fw (k:Int):Nat:=if k=1∨k=5 then 2 else if k=4 then 6 else 1
def eh (e:fo):Int:=if e.kind<1∨5<e.kind then 3 else if ¬fa e then 4 else if e.aA<1∨2147483647<e.aA then 9 else eW e
def fS (e:fo):List fE:=bC (u64 (3+fw e.kind)):: [aF (u64 e.aA),aF e.prev,aF (u64 e.kind)]++ga e
def fA (e:fo):List UInt8:=if eh e=0 then gQ (fS e) else []
def de (e:fo):UInt64:=hash 16 (fA e)
def iY (e:fo):List (List fE):=if e.kind=4 then [[aF e.dep.bF],[aF e.dep.peer],[dQ e.dep.box],bC (u64 e.dep.ae.length)::e.dep.ae.map cy,bC (u64 e.dep.au.length)::e.dep.au.map aF,[aF (u64 e.dep.need)]] else (ga e).map fun x=>[x]
theorem Hi {x:List UInt8} (h:dV x=0):1≤x.length∧x.length≤32:=by
 apply Classical.byContradiction
 intro q
 have:=pQ (x:=x) aj
 omega
theorem Hh {x:List UInt8} (h:dV x=0):Lib.validD x=true:=by
 have:=Hi h
 cases e:Lib.validD x with
 | true=>rfl
 | false=>have:=xq (x:=x) aj e;omega
theorem H5 {l:List (List UInt8)} {i:Nat} (h:mu l i=0):dV (l.getD i default)=0:=by
 apply Classical.byContradiction
 intro q
 rw [H7 rfl q] at h
 exact q h
theorem sK {x:List UInt8} (h:dV x=0):eM (cy x):=.text (by have:=Hi h;omega) (Hh h)
structure P8 (d:mU):Prop where
 box:d.box.length≤1024
 n1:1≤d.ae.length
 n8:d.ae.length≤8
 need:1≤d.need∧d.need≤d.ae.length
 QF:d.au.length=d.ae.length
 F_:∀x∈d.ae,dV x=0
theorem I4 {d:mU} (h:fC d=0):P8 d:=by
 unfold fC at h
 by_cases c1:1024<d.box.length
 ·rw [if_pos c1] at h;omega
 rw [if_neg c1] at h
 by_cases c2:nD d.ae.length d.need
 ·rw [if_pos c2] at h;omega
 rw [if_neg c2] at h
 by_cases c3:d.au.length≠d.ae.length
 ·rw [if_pos c3] at h;omega
 rw [if_neg c3] at h
 unfold nD at c2
 refine ⟨aj,aj,aj,aj,aj,fun x hx=>?_⟩
 obtain ⟨i,hi,rfl⟩:=List.mem_iff_getElem.1 hx
 have:=H5 (xV h i hi)
 rwa [List.getD_eq_getElem?_getD,List.getElem?_eq_getElem hi] at this
theorem mn {T:Type} {f:T->fE} {l:List T} (h:∀x∈l,eM (f x)):∀y∈l.map f,eM y:=fun y hy=>by
 obtain ⟨x,hx,rfl⟩:=List.mem_map.1 hy
 exact h x hx
theorem HC (h:Int) (r:UInt64):eM (dQ (dc h r)):=.byte (by have:=nm h r;omega)
theorem kZ {x:fE} (h:eM x):eH x.kind∧x.cK.length≤10000:=by
 refine ⟨?_,by have:=h.cK;omega⟩
 rcases h.kind with q|q|q
 ·exact .inl q
 ·exact .inr (.inl q)
 ·exact .inr (.inr (.inl q))
theorem mC (n:UInt64):eH (bC n).kind∧(bC n).cK.length≤10000:=⟨.inr (.inr (.inr rfl)),Nat.zero_le _⟩
structure NF (e:fo):Prop where
 TL:Jp ([[aF (u64 e.aA)],[aF e.prev],[aF (u64 e.kind)]]++iY e)
 V4:ff (ot ([[aF (u64 e.aA)],[aF e.prev],[aF (u64 e.kind)]]++iY e)) (3+(iY e).length)=0
 arr:ph ([[aF (u64 e.aA)],[aF e.prev],[aF (u64 e.kind)]]++iY e)=fS e
 VE:eN (fS e)=0
 len:(fS e).length≤30
 SE:∀x∈fS e,eH x.kind∧x.cK.length≤10000
 n6:(iY e).length≤6
theorem Cu {e:fo} (h:eW e=0) (h4:e.kind≠4):∀x∈ga e,eM x:=by
 intro x hx
 unfold eW at h
 unfold ga at hx
 by_cases k1:e.kind=1
 ·rw [if_pos k1] at h hx
  have hn:dV e.name=0:=by
   apply Classical.byContradiction;intro q;rw [if_pos q] at h;exact q h
  simp only [List.mem_cons,List.not_mem_nil,or_false] at hx
  rcases hx with rfl|rfl
  ·exact sK hn
  ·exact HC _ _
 rw [if_neg k1] at h hx
 by_cases k2:e.kind=2
 ·rw [if_pos k2] at h hx
  obtain rfl:=List.mem_singleton.1 hx
  exact sK h
 rw [if_neg k2] at h hx
 by_cases k3:e.kind=3
 ·rw [if_pos k3] at hx
  obtain rfl:=List.mem_singleton.1 hx
  exact .uint _
 rw [if_neg k3] at hx
 rw [if_neg h4] at hx
 simp only [List.mem_cons,List.not_mem_nil,or_false] at hx
 rcases hx with rfl|rfl
 ·exact .uint _
 ·exact .uint _
theorem KW {e:fo} (hk:1≤e.kind∧e.kind≤5) (h4:e.kind≠4):(ga e).length=fw e.kind:=by
 unfold ga fw
 by_cases k1:e.kind=1
 ·rw [if_pos k1,if_pos (.inl k1)];rfl
 rw [if_neg k1]
 by_cases k2:e.kind=2
 ·rw [if_pos k2,if_neg aj,if_neg h4];rfl
 rw [if_neg k2]
 by_cases k3:e.kind=3
 ·rw [if_pos k3,if_neg aj,if_neg h4];rfl
 rw [if_neg k3,if_neg h4,if_pos aj];rfl
theorem Dx (k:Int):1≤fw k∧fw k≤6:=by unfold fw;split<;>(try split)<;>omega
theorem Eo {f:Nat->Int}:∀ {n:Nat},(∀j,j<n->f j=0)->ff f n=0
 | 0,_=>rfl
 | n+1,h=>by
  show (if _ then _ else _)=_
  rw [if_neg (by rw [Eo fun j hj=>h j aj];decide)]
  exact h n aj
theorem M9 {vs:List (List fE)} (h:∀v∈vs,eN v=0):ff (ot vs) vs.length=0:=Eo fun j hj=>by
 show eN (vs.getD j default)=0
 rw [List.getD_eq_getElem?_getD,List.getElem?_eq_getElem hj]
 exact h _ (List.getElem_mem hj)
theorem za {n:UInt64} {xs:List fE} (hx:∀x∈xs,eM x) (hn:wv n=xs.length) (h1:1≤xs.length) (h2:xs.length≤100):eN (bC n::xs)=0:=Dv hx hn h1 h2
theorem yw {e:fo} (h:eh e=0):NF e:=by
 unfold eh at h
 by_cases k0:e.kind<1∨5<e.kind
 ·rw [if_pos k0] at h;omega
 rw [if_neg k0] at h
 by_cases c1:¬fa e
 ·rw [if_pos c1] at h;omega
 rw [if_neg c1] at h
 by_cases c2:e.aA<1∨2147483647<e.aA
 ·rw [if_pos c2] at h;omega
 rw [if_neg c2] at h
 have ht:=Dx e.kind
 have hw:wv (u64 (3+fw e.kind))=(3+fw e.kind:Nat):=by rw [show (3:Int)+fw e.kind=((3+fw e.kind:Nat):Int) by omega,qw];omega
 have h3:∀x∈ [aF (u64 e.aA),aF e.prev,aF (u64 e.kind)],eM x:=fun x hx=>by
  simp only [List.mem_cons,List.not_mem_nil,or_false] at hx
  rcases hx with rfl|rfl|rfl<;>exact .uint _
 by_cases k4:e.kind=4
 ·have hd:fC e.dep=0:=by
   unfold eW at h
   rwa [if_neg aj,if_neg aj,if_neg aj,if_pos k4] at h
  have ok:=I4 hd
  have n1:=ok.n1
  have n8:=ok.n8
  have UI:=ok.QF
  have hH:∀x∈e.dep.ae.map cy,eM x:=mn fun x hx=>sK (ok.F_ x hx)
  have hD:∀x∈e.dep.au.map aF,eM x:=mn fun x _=>.uint x
  have hB:eM (dQ e.dep.box):=.byte ok.box
  have wH:wv (u64 (e.dep.ae.length:Int))=(e.dep.ae.map cy).length:=by rw [qw,List.length_map];omega
  have wD:wv (u64 (e.dep.au.length:Int))=(e.dep.au.map aF).length:=by rw [qw,List.length_map];omega
  have tk:fw e.kind=6:=by unfold fw;rw [if_neg aj,if_pos k4]
  have hv:iY e= [[aF e.dep.bF],[aF e.dep.peer],[dQ e.dep.box],bC (u64 e.dep.ae.length)::e.dep.ae.map cy,bC (u64 e.dep.au.length)::e.dep.au.map aF,[aF (u64 e.dep.need)]]:=if_pos k4
  have hf:ga e=uZ e.dep:=by unfold ga;rw [if_neg aj,if_neg aj,if_neg aj,if_pos k4]
  have Gb:(e.dep.ae.map cy).length=e.dep.ae.length:=List.length_map ..
  have Ci:(e.dep.au.map aF).length=e.dep.ae.length:=by rw [List.length_map];exact UI
  have each:∀v∈ [[aF (u64 e.aA)],[aF e.prev],[aF (u64 e.kind)]]++iY e,v.length≤20∧eN v=0∧ ∀x∈v,eH x.kind∧x.cK.length≤10000:=by
   have one:∀x,eM x-> [x].length≤20∧eN [x]=0∧ ∀y∈ [x],eH y.kind∧y.cK.length≤10000:=fun x hx=>⟨by simp,y_ hx,fun y hy=>by obtain rfl:=List.mem_singleton.1 hy;exact kZ hx⟩
   intro v HM
   rw [hv] at HM
   simp only [List.cons_append,List.nil_append,List.mem_cons,List.not_mem_nil,or_false] at HM
   rcases HM with rfl|rfl|rfl|rfl|rfl|rfl|rfl|rfl|rfl
   ·exact one _ (.uint _)
   ·exact one _ (.uint _)
   ·exact one _ (.uint _)
   ·exact one _ (.uint _)
   ·exact one _ (.uint _)
   ·exact one _ hB
   ·refine ⟨by rw [List.length_cons,Gb];omega,za hH wH aj aj,fun y hy=>?_⟩
    rcases List.mem_cons.1 hy with rfl|hy
    ·exact mC _
    ·exact kZ (hH y hy)
   ·refine ⟨by rw [List.length_cons,Ci];omega,za hD wD aj aj,fun y hy=>?_⟩
    rcases List.mem_cons.1 hy with rfl|hy
    ·exact mC _
    ·exact kZ (hD y hy)
   ·exact one _ (.uint _)
  have NU:([[aF (u64 e.aA)],[aF e.prev],[aF (u64 e.kind)]]++iY e).length=9:=by rw [hv];rfl
  have ha:ph ([[aF (u64 e.aA)],[aF e.prev],[aF (u64 e.kind)]]++iY e)=fS e:=by
   unfold ph fS
   rw [NU,hf,hv,tk]
   unfold uZ
   simp
  have KB:(fS e).length=10+2*e.dep.ae.length:=by
   unfold fS
   rw [hf]
   unfold uZ
   simp only [List.length_cons,List.length_append,Gb,Ci,List.length_nil]
   omega
  refine ⟨⟨by rw [NU];omega,fun v h=>(each v h).1,fun v h x hx=>((each v h).2.2 x hx).1,fun v h x hx=>((each v h).2.2 x hx).2⟩,?_,ha,?_,aj,?_,by rw [hv];exact Nat.le_refl _⟩
  ·have:=M9 fun v h=>(each v h).2.1
   rw [NU] at this
   rw [show 3+(iY e).length=9 by rw [hv];rfl]
   exact this
  ·refine JO aj ?_
   have w9:wv (u64 (3+fw e.kind))=9:=by rw [hw,tk];rfl
   have e1:fS e=bC (u64 (3+fw e.kind))::([aF (u64 e.aA),aF e.prev,aF (u64 e.kind),aF e.dep.bF,aF e.dep.peer,dQ e.dep.box]++((bC (u64 e.dep.ae.length)::e.dep.ae.map cy)++((bC (u64 e.dep.au.length)::e.dep.au.map aF)++ [aF (u64 e.dep.need)]))):=by
    unfold fS
    rw [hf]
    unfold uZ
    simp
   have l6:∀x∈ [aF (u64 e.aA),aF e.prev,aF (u64 e.kind),aF e.dep.bF,aF e.dep.peer,dQ e.dep.box],eM x:=fun x hx=>by
    simp only [List.mem_cons,List.not_mem_nil,or_false] at hx
    rcases hx with rfl|rfl|rfl|rfl|rfl|rfl
    ·exact .uint _
    ·exact .uint _
    ·exact .uint _
    ·exact .uint _
    ·exact .uint _
    ·exact hB
   rw [e1,GM _ aj aj,w9,m9,tD (by simp) l6 (show ((6:Nat):Int)<9 by omega) (aj:1+6≤500)]
   show lh ([]++ [(9:Int)-6]) (1+6) _=_
   rw [m9,vY (by simp) hH wH aj (by decide) aj]
   show lh ([]++ [(9:Int)-6-1]) (1+6+(bC (u64 e.dep.ae.length)::e.dep.ae.map cy).length) _=_
   rw [List.length_cons,Gb,m9,vY (by simp) hD wD aj (by decide) aj]
   show lh ([]++ [(([aF (u64 e.dep.need)]:List fE).length:Int)]) _ [aF (u64 e.dep.need)]=_
   have RC:(bC (u64 (e.dep.au.length:Int))::e.dep.au.map aF).length=e.dep.ae.length+1:=by rw [List.length_cons,Ci]
   rw [RC]
   exact tE (f:=[]) (xs:=[aF (u64 e.dep.need)]) (Nat.zero_le _) (fun x hx=>by obtain rfl:=List.mem_singleton.1 hx;exact .uint _) Nat.zero_lt_one (by show _+1≤_;omega)
  ·intro x hx
   rw [←ha] at hx
   unfold ph at hx
   rcases List.mem_cons.1 hx with rfl|hx
   ·exact mC _
   ·obtain ⟨v,My,Mx⟩:=List.mem_flatten.1 hx
    exact (each v My).2.2 x Mx
 ·have KC:=Cu h k4
  have KB:=KW (e:=e) aj k4
  have hv:iY e=(ga e).map fun x=>[x]:=if_neg k4
  have SU:∀x∈ [aF (u64 e.aA),aF e.prev,aF (u64 e.kind)]++ga e,eM x:=fun x hx=>by
   rcases List.mem_append.1 hx with hx|hx
   ·exact h3 x hx
   ·exact KC x hx
  have Te:([aF (u64 e.aA),aF e.prev,aF (u64 e.kind)]++ga e).length=3+fw e.kind:=by rw [List.length_append,KB];rfl
  obtain ⟨v1,v2,v3,v4⟩:=oW SU aj aj
  have hm:([aF (u64 e.aA),aF e.prev,aF (u64 e.kind)]++ga e).map (fun x=>[x])= [[aF (u64 e.aA)],[aF e.prev],[aF (u64 e.kind)]]++iY e:=by rw [List.map_append,hv];rfl
  rw [hm] at v1 v2 v3 v4
  have ha:ph ([[aF (u64 e.aA)],[aF e.prev],[aF (u64 e.kind)]]++iY e)=fS e:=by
   rw [v4,Te]
   unfold fS
   rw [show ((3+fw e.kind:Nat):Int)=3+fw e.kind by omega];rfl
  have MK:(fS e).length=1+(3+fw e.kind):=by
   rw [←ha,v4,List.length_cons,Te];omega
  refine ⟨v1,?_,ha,by rw [←ha];exact v3,aj,fun x hx=>?_,by rw [hv,List.length_map];omega⟩
  ·rw [List.length_append] at v2
   exact v2
  ·rw [←ha,v4] at hx
   rcases List.mem_cons.1 hx with rfl|hx
   ·exact mC _
   ·exact kZ (SU x hx)
def dC (l:List Mem) (h:List UInt8):Int:=if (∃m∈l,m.name=h) then (l.findIdx (fun m=>m.name == h):Int) else -1
theorem xy {l:List Mem} {h:List UInt8} (hn:∀j,j<l.length->(l.getD j default).name≠h):dC l h= -1:=by
 unfold dC
 rw [if_neg]
 rintro ⟨m,hm,e⟩
 obtain ⟨j,hj,e2⟩:=List.getElem_of_mem hm
 exact hn j hj (by rw [List.getD_eq_getElem?_getD,List.getElem?_eq_getElem hj];show l[j].name=h;rw [e2];exact e)
theorem xA {l:List Mem} {h:List UInt8} {i:Nat} (hi:i<l.length) (hn:∀j,j<i->(l.getD j default).name≠h) (e:(l.getD i default).name=h):dC l h=i:=by
 rw [List.getD_eq_getElem?_getD,List.getElem?_eq_getElem hi] at e
 have e:l[i].name=h:=e
 unfold dC
 rw [if_pos ⟨l[i],List.getElem_mem hi,e⟩]
 have:l.findIdx (fun m=>m.name == h)=i:=(List.findIdx_eq hi).2 ⟨by simpa using e,fun j hj=>by
  have:=hn j hj
  rw [List.getD_eq_getElem?_getD,List.getElem?_eq_getElem aj] at this
  simpa using this⟩
 rw [this]
theorem B7 (seed:UInt64) (h:Int):bK Tryz.prog 97 [aw seed,ai h] (.lB 142 [.ptr [ai h] 0,.ptr [aw seed] 0]):=by
 refine zO Tryz.func97 6<|zP 2 [{},{}] [.aa [4,3,2,0,1] []] []<|zR (zV [yR [AV.ptr [ai h] 0,AV.ptr [aw seed] 0]])
def kE (seed:UInt64) (h i:Nat):List UInt64:=(List.range (2^(h-i))).map (fV seed i)
theorem pT (seed:UInt64) (h i:Nat):(kE seed h i).length=2^(h-i):=by simp [kE]
theorem pU (seed:UInt64) (h i k:Nat) (hk:k<2^(h-i)):(kE seed h i).getD k 0=fV seed i k:=by simp [kE,hk]
def xD (yv:Value) (seed:UInt64) (h:Nat) (fj:Nat) (l:List UInt64):AS :=
 ⟨[(0,.val yv),(1,.ptr [ai (h:Int)] 0),(2,.ptr [aw seed] 0),(4,.ref 11),(6,ai (fj:Int))],[(11,⟨1,true,false,ah l⟩)]⟩
theorem Ki (yv:Value) (seed:UInt64) (h:Nat) (hh:h≤4):bf Tryz.prog 63 (Code.seq (iq (dm Tryz.f142)) (Code.seq (iq (dA (dm Tryz.f142))) (Code.seq (iq (dA (dA (dm Tryz.f142)))) .skip))) (fun e s'=>e= .normal∧bR s' (xD yv seed h 0 (kE seed h 0))) ⟨kP 0 [.val yv,.ptr [ai (h:Int)] 0,.ptr [aw seed] 0],[]⟩:=by
 have hl:=pT seed h 0
 have gT:∀k:Nat,k<2^h->(kE seed h 0).getD k 0=combine k (bG seed k 18):=fun k hk=>pU seed h 0 k hk
 rw [Nat.sub_zero] at hl
 have hp:2^h≤16:=Nat.pow_le_pow_right (by decide) hh
 have Cf:IntKind.i64.wrap (1*2^min ((h:Nat):Int).toNat IntKind.i64.bits)=((2^h:Nat):Int):=by
  rcases (aj:h=0∨h=1∨h=2∨h=3∨h=4) with rfl|rfl|rfl|rfl|rfl<;>decide +kernel
 generalize kE seed h 0=L at *
 generalize 2^h=m at *
 refine zP 1 [yH [(1,yV (ai ↑m)),(2,{av:=some (AV.arr (ah (List.replicate m 0))),k:=m,m:=m})]] [.aa [4,0,1,2] [11]] ([yI (yc Cf),yO ((0:Int)≤(↑h:Int)),yB (List.replicate m (dW)=ah (List.replicate m 0)) (ti _)]++yM 2 (yR (↑m:Int))++ [yO (m≤m),yO (8*m≤281474976710656),yB (m≤maxLen) (by unfold maxLen;omega)])<|zS<|zQ 1 [yH [(1,{k:=m})]] [yB ((ah (List.replicate m 0)).length=m) (by simp only [aB,List.length_replicate])]<|zB 0 (zL (fun (k:Nat)=>(⟨[(13,ai ↑m),(4,AV.ref 11),(0,AV.val yv),(1,AV.ptr [ai ↑h] 0),(2,AV.ptr [aw seed] 0),(14,ai k)],[(11,⟨1,true,false,ah (cQ m L k)⟩)]⟩:AS)) (fun k=>(k≤m)) (fun k=>(m-k)) (0) ?_ (zW [.aa [13,4,0,1,2,14] [11]]) ?_)
 ·omega
 intro k hk
 have hf:=kk hl hk
 refine zq<|zS (zD 15 ((↑k:Int)<(↑m:Int)) (fun g=>?_) (fun g=>?_))
 ·have e1:=lT hl (aj:k<m)
  have e2:=gT k aj
  refine a7<|zS<|zB 1<|zq<|zX (yH [(4,yV (aw (combine (↑k:Int) (bG seed (↑k:Int) 18)))),(5,{k:=k}),(6,yV (AV.arr (ah ((cQ m L k).set k (combine (↑k:Int) (bG seed (↑k:Int) 18))))))]) [yI (z_ seed ((↑k:Int))),yR (↑k:Int),yB (k<(ah (cQ m L k)).length) (by simp only [aB];omega),yB ((ah (cQ m L k)).set k (aw (combine (↑k:Int) (bG seed (↑k:Int) 18)))=ah ((cQ m L k).set k (combine (↑k:Int) (bG seed (↑k:Int) 18)))) (ko _ _ _),yB (k+1≤(ah (cQ m L k)).length) (by simp only [aB];omega)]<|aL<|ak<|zX (yH [(0,yV (ai ((↑k:Int)+1)))]) [yN ((↑k:Int)+1)] (aH (k+1) aj aj (eJ [.aa [13,4,0,1,2,14] [11]] [] [11] [yB (ah ((cQ m L k).set k (combine (↑k:Int) (bG seed (↑k:Int) 18)))=ah (cQ m L (k+1))) (congrArg ah (by rw [←e2];exact e1))]))
 ·have e:k=m:=aj
  subst e
  have e1:=kH hl
  rw [e1]
  refine zE 0<|a_<|aP<|bo<|ak<|zq<|zK ?_
  exact ⟨rfl,bR.of [.aa [0,1,2,4,6] [11]] (s1:=xD yv seed h 0 L) bD rfl⟩
theorem Hx (yv:Value) (seed:UInt64) (h fj:Nat) (hh:h≤4) (Rz:fj<h):bf Tryz.prog 63 (dA (ft (ft (dA (dA (dA (dm Tryz.f142))))))) (fun e s'=>e= .normal∧bR s' (xD yv seed h (fj+1) (kE seed h (fj+1)))) (xD yv seed h fj (kE seed h fj)):=by
 have hl:=pT seed h fj
 have Ci:=pT seed h (fj+1)
 have em:2^(h-fj)=2*2^(h-(fj+1)):=by rw [show h-fj=h-(fj+1)+1 by omega,Nat.pow_succ,Nat.mul_comm]
 have hp:2^(h-(fj+1))≤16:=Nat.le_trans (Nat.pow_le_pow_right (by decide) (by omega:h-(fj+1)≤4)) (by decide)
 have gT:∀k:Nat,k<2^(h-(fj+1))->(kE seed h (fj+1)).getD k 0=gO ((fj+1:Nat):Int) ((kE seed h fj).getD (2*k) 0) ((kE seed h fj).getD (2*k+1) 0):=fun k hk=>by
  rw [pU seed h (fj+1) k hk,pU seed h fj (2*k) aj,pU seed h fj (2*k+1) aj];rfl
 generalize kE seed h fj=L at *
 generalize kE seed h (fj+1)=L2 at *
 rw [em] at hl
 clear em
 generalize 2^(h-(fj+1))=m at *
 have hq:IntKind.i64.wrap ((L.length:Int).tdiv 2)=(m:Int):=by
  rw [hl,Int.tdiv_eq_ediv_of_nonneg aj,eY aj aj];omega
 show bf _ _ _ _ (AS.mk [(0,.val yv),(1,.ptr [ai (h:Int)] 0),(2,.ptr [aw seed] 0),(4,.ref 11),(6,ai (fj:Int))] [(11,Row.mk 1 true false (ah L))])
 refine zS<|zB 3<|zP 1 [yH [(1,{k:=L.length}),(2,yV (ai ↑m)),(3,{av:=some (AV.arr (ah (List.replicate m 0))),k:=m,m:=m})]] [.aa [7,0,1,2,4,6] [38,11]] ([yI (aB L),yI (yc hq),yO ((2:Int)≠(0:Int)),yB (List.replicate m (dW)=ah (List.replicate m 0)) (ti _)]++yM 2 (yR (↑m:Int))++ [yO (m≤m),yO (8*m≤281474976710656),yB (m≤maxLen) (by unfold maxLen;omega)])<|zS<|zQ 1 [yH [(1,{k:=m})]] [yB ((ah (List.replicate m 0)).length=m) (by simp only [aB,List.length_replicate])]<|zB 4 (zL (fun (k:Nat)=>(⟨[(40,ai ↑m),(7,AV.ref 38),(0,AV.val yv),(1,AV.ptr [ai ↑h] 0),(2,AV.ptr [aw seed] 0),(4,AV.ref 11),(6,ai ↑fj),(41,ai k)],[(11,⟨1,true,false,ah L⟩),(38,⟨1,true,false,ah (cQ m L2 k)⟩)]⟩:AS)) (fun k=>(k≤m)) (fun k=>(m-k)) (0) ?_ (zW [.aa [40,7,0,1,2,4,6,41] [11,38]]) ?_)
 ·omega
 intro k hk
 have hf:=kk Ci hk
 refine zq<|zS (zD 42 ((↑k:Int)<(↑m:Int)) (fun g=>?_) (fun g=>?_))
 ·have e1:=lT Ci (aj:k<m)
  have e2:=gT k aj
  have w1:IntKind.i64.wrap ((fj:Int)+1)=((fj+1:Nat):Int):=by rw [eY aj aj];omega
  have w2:IntKind.i64.wrap (2*(k:Int))=((2*k:Nat):Int):=by rw [eY aj aj];omega
  have w3:IntKind.i64.wrap (((2*k:Nat):Int)+1)=((2*k+1:Nat):Int):=by rw [eY aj aj];omega
  refine a7<|zS<|zB 5<|zq<|zX ({hs:=[(3,yV (ai (↑(fj+1):Int))),(6,yV (ai (↑(2*k):Int))),(7,{k:=2*k}),(8,yV (aw (L.getD (2*k) 0))),(11,yV (ai (↑(2*k):Int))),(12,yV (ai (↑(2*k+1):Int))),(13,{k:=2*k+1}),(14,yV (aw (L.getD (2*k+1) 0))),(15,yV (aw (gO (↑(fj+1):Int) (L.getD (2*k) 0) (L.getD (2*k+1) 0)))),(16,{k:=k}),(17,yV (AV.arr (ah ((cQ m L2 k).set k (gO (↑(fj+1):Int) (L.getD (2*k) 0) (L.getD (2*k+1) 0))))))],T:=16}) [yB (ai (IntKind.i64.wrap ((↑fj:Int)+1))=ai (↑(fj+1):Int)) (d_ aj aj),yB (ai (IntKind.i64.wrap ((2:Int)*(↑k:Int)))=ai (↑(2*k):Int)) (d_ aj aj),yR (↑(2*k):Int),yB (2*k<(ah L).length) (by simp only [aB];omega),yB ((ah L)[2*k]?=some (aw (L.getD (2*k) 0))) (dB aj),yB (ai (IntKind.i64.wrap ((2:Int)*(↑k:Int)))=ai (↑(2*k):Int)) (d_ aj aj),yB (ai (IntKind.i64.wrap ((↑(2*k):Int)+1))=ai (↑(2*k+1):Int)) (d_ aj aj),yR (↑(2*k+1):Int),yB (2*k+1<(ah L).length) (by simp only [aB];omega),yB ((ah L)[2*k+1]?=some (aw (L.getD (2*k+1) 0))) (dB aj),yI (oX (↑(fj+1):Int) (L.getD (2*k) 0) (L.getD (2*k+1) 0)),yR (↑k:Int),yB (k<(ah (cQ m L2 k)).length) (by simp only [aB];omega),yB ((ah (cQ m L2 k)).set k (aw (gO (↑(fj+1):Int) (L.getD (2*k) 0) (L.getD (2*k+1) 0)))=ah ((cQ m L2 k).set k (gO (↑(fj+1):Int) (L.getD (2*k) 0) (L.getD (2*k+1) 0)))) (ko _ _ _),yB (k+1≤(ah (cQ m L2 k)).length) (by simp only [aB];omega)]<|aL<|ak<|zX (yH [(0,yV (ai ((↑k:Int)+1)))]) [yN ((↑k:Int)+1)] (aH (k+1) aj aj (eJ [.aa [40,7,0,1,2,4,6,41] [11,38]] [] [38] [yB (ah ((cQ m L2 k).set k (gO (↑(fj+1):Int) (L.getD (2*k) 0) (L.getD (2*k+1) 0)))=ah (cQ m L2 (k+1))) (congrArg ah (by rw [←e2];exact e1))]))
 ·have e:k=m:=aj
  subst e
  have e1:=kH Ci
  rw [e1]
  refine zE 4<|a_<|aP<|bo<|ak<|zX {} []<|aL<|ak<|zX (yH [(1,yV (ai ((↑fj:Int)+1)))]) [yN ((↑fj:Int)+1)] ?_
  exact ⟨rfl,bR.of [.sm 38 11,.aa [0,1,2,4,6] [11]] (s1:=AS.mk [(0,.val yv),(1,.ptr [ai (h:Int)] 0),(2,.ptr [aw seed] 0),(4,.ref 11),(6,ai ((fj:Int)+1))] [(11,Row.mk 1 true false (ah L2))]) bD (by unfold xD;rw [show ((fj+1:Nat):Int)=(fj:Int)+1 by omega])⟩
theorem EL {P:Program} {x y z B:Code} {Q Q':Exit->Act->World->Prop} {K:Act->World->Prop} {a:Act} {w:World} (h:BB P (.seq x (.seq y (.seq z .skip))) Q a w) (hQ:∀e a w,Q e a w->e= .normal∧K a w) (hB:∀a w,K a w->B.wp P Q' a w):(Code.seq x (.seq y (.seq z B))).wp P Q' a w:=by
 refine wp_seq (wp_mono (ks x _ _ _ h) fun e a w he=>?_)
 cases e with
 | normal =>
  refine wp_seq (wp_mono (ks y _ _ _ he) fun e a w he=>?_)
  cases e with
  | normal =>
   refine wp_seq (wp_mono (ks z _ _ _ he) fun e a w he=>?_)
   cases e with
   | normal=>exact hB _ _ (hQ _ _ _ he).2
   | _=>cases (hQ _ _ _ he).1
  | _=>cases (hQ _ _ _ he).1
 | _=>cases (hQ _ _ _ he).1
def lj:Code->List Oper
 | .region _ ops _=>ops.toList
 | _=>[]
theorem Kj (yv:Value) (seed:UInt64) (h fj:Nat) (l:List UInt64):jV Tryz.prog 63 (lj (iq (iq (ft (ft (dA (dA (dA (dm Tryz.f142))))))))) [] ((lj (iq (iq (ft (ft (dA (dA (dA (dm Tryz.f142))))))))).take 3) 0 (xD yv seed h fj l) =
  some (AS.mk [(26,.ref 11),(25,ai (fj:Int)),(24,.val yv),(0,.val yv),(1,.ptr [ai (h:Int)] 0),(2,.ptr [aw seed] 0),(4,.ref 11),(6,ai (fj:Int))] [(11,Row.mk 1 true false (ah l))],[]):=by kernel_rfl
theorem Hv (yv:Value) (seed:UInt64) (h fj:Nat) (l:List UInt64):jV Tryz.prog 63 (lj (iq (iq (ft (ft (dA (dA (dA (dm Tryz.f142))))))))) [] ((lj (iq (iq (ft (ft (dA (dA (dA (dm Tryz.f142))))))))).drop 4) 4 (lg (AS.mk [(26,.ref 11),(25,ai (fj:Int)),(24,.val yv),(0,.val yv),(1,.ptr [ai (h:Int)] 0),(2,.ptr [aw seed] 0),(4,.ref 11),(6,ai (fj:Int))] [(11,Row.mk 1 true false (ah l))]) 27 (ao true)) =
  some (AS.mk [(32,ao (decide ((fj:Int)<(h:Int)))),(31,ao (decide ((fj:Int)<(h:Int)))),(30,ai (h:Int)),(29,ai (fj:Int)),(28,ao true),(27,ao true),(26,.ref 11),(25,ai (fj:Int)),(24,.val yv),(0,.val yv),(1,.ptr [ai (h:Int)] 0),(2,.ptr [aw seed] 0),(4,.ref 11),(6,ai (fj:Int))] [(11,Row.mk 1 true false (ah l))],[true=true,true=true,true=true,true=true]):=by kernel_rfl
theorem Hw (yv:Value) (seed:UInt64) (h fj:Nat) (l:List UInt64):jV Tryz.prog 63 (lj (iq (iq (ft (ft (dA (dA (dA (dm Tryz.f142))))))))) [(5,{g:=false}),(6,{g:=false}),(7,{g:=false}),(8,{b:=false})] ((lj (iq (iq (ft (ft (dA (dA (dA (dm Tryz.f142))))))))).drop 4) 4 (lg (AS.mk [(26,.ref 11),(25,ai (fj:Int)),(24,.val yv),(0,.val yv),(1,.ptr [ai (h:Int)] 0),(2,.ptr [aw seed] 0),(4,.ref 11),(6,ai (fj:Int))] [(11,Row.mk 1 true false (ah l))]) 27 (ao false)) =
  some (AS.mk [(32,ao false),(31,.val (.tuple #[])),(30,.val (.tuple #[])),(29,.val (.tuple #[])),(28,ao false),(27,ao false),(26,.ref 11),(25,ai (fj:Int)),(24,.val yv),(0,.val yv),(1,.ptr [ai (h:Int)] 0),(2,.ptr [aw seed] 0),(4,.ref 11),(6,ai (fj:Int))] [(11,Row.mk 1 true false (ah l))],[false=false,false=false,false=false,false=false]):=by kernel_rfl
theorem It.val {n:Nat} {J:(Nat->Prop)->(Nat->Prop)->World->Prop} {s:AS} {a:Act} {w:World} {x:Operand} {v:Value} (h:It n J s a w) (hx:bp s x= .val v):a.eval x=v:=by
 obtain ⟨wb,Z,φ,ms,h1,-⟩:=h
 exact bJ (hx ▸ h1.bp x)
theorem Ak (seed:UInt64) (h:Nat) (hh:h≤4):wT Tryz.prog 142 [.ptr [ai (h:Int)] 0,.ptr [aw seed] 0] (fun i=>[ai (i:Int),.sl 1 (ah (kE seed h i))]) (h+1):=by
 refine wT.pO (n:=63) Tryz.func142 (c:=(dm Tryz.f142)) bD bD bD (by simp) ?_
 intro l J X hJ hX hy a w hit
 have eb:(dm Tryz.f142)= .seq (iq (dm Tryz.f142)) (.seq (iq (dA (dm Tryz.f142))) (.seq (iq (dA (dA (dm Tryz.f142)))) (dA (dA (dA (dm Tryz.f142)))))):=by kernel_rfl
 have eB:dA (dA (dA (dm Tryz.f142)))= .block 2 (.loop (.seq (.seq (.region 7 (lj (iq (iq (ft (ft (dA (dA (dA (dm Tryz.f142))))))))).toArray false) (.cond (.tmp 32) .skip (.exit 2))) (dA (ft (ft (dA (dA (dA (dm Tryz.f142))))))))):=by kernel_rfl
 have Rm:=It.SF hit (hJ 0) (Ki (.func (.yield l) #[] #[]) seed h hh)
 rw [eb]
 refine EL (K:=It 63 (J 0) (xD (.func (.yield l) #[] #[]) seed h 0 (kE seed h 0))) Rm (fun e a w ⟨s',⟨he,hw⟩,hi⟩=>⟨he,hi.oe (hJ 0) hw⟩) fun a w NY=>?_
 rw [eB]
 refine wp_block (DW (fun k a w=>∃fj,fj≤h∧k=h-fj∧It 63 (J fj) (xD (.func (.yield l) #[] #[]) seed h fj (kE seed h fj)) a w) h ⟨0,aj,aj,NY⟩ ?_)
 rintro k a w ⟨fj,Rz,rfl,hit⟩
 refine wp_seq (wp_seq ?_)
 refine Gl (d:=27) (l1:=(lj (iq (iq (ft (ft (dA (dA (dA (dm Tryz.f142))))))))).take 3) (o:=((lj (iq (iq (ft (ft (dA (dA (dA (dm Tryz.f142))))))))).drop 3).headD default) (l2:=(lj (iq (iq (ft (ft (dA (dA (dA (dm Tryz.f142))))))))).drop 4) (y:=.tmp 24) (xs:= #[.tmp 25,.tmp 26]) (ts:= #[3,27]) bD bD bD bD (by rintro ⟨_,_,he,_⟩;rcases he with he|he<;>cases he) bD bD<|hit.ops (hJ fj) (Kj _ seed h fj _) trivial fun a1 w1 Qu=>⟨l,Qu.val (x:=.tmp 24) bD,?_⟩
 refine It.yield (d:=27) (xs:=[.tmp 25,.tmp 26]) hJ hX (by decide) hy Qu aj (s1:=AS.mk [(26,.sl 1 (ah (kE seed h fj))),(25,ai (fj:Int)),(24,.val (.func (.yield l) #[] #[])),(0,.val (.func (.yield l) #[] #[])),(1,.ptr [ai (h:Int)] 0),(2,.ptr [aw seed] 0),(4,.sl 1 (ah (kE seed h fj))),(6,ai (fj:Int))] []) bD bD bD _ (fun w2 dD=>?_) (fun w2 dD=>?_)
 ·refine dD.ops (hJ (fj+1)) (Hv _ seed h fj _) ⟨rfl,rfl,rfl,rfl,trivial⟩ fun a3 w3 NW=>?_
  have hv:=NW.val (x:=.tmp 32) (v:=.bool (decide ((fj:Int)<(h:Int)))) bD
  refine wp_cond_split hv (fun ht=>?_) (fun hf=>?_)
  ·have dd:fj<h:=by have:=of_decide_eq_true ht;omega
   refine wp_skip ?_
   have Uy:=NW.oe (hJ (fj+1)) (s':=xD (.func (.yield l) #[] #[]) seed h fj (kE seed h fj)) (bR.of [.aa [0,1,2,4,6] [11]] bD rfl)
   refine wp_mono (ks _ _ _ _ (It.SF Uy (hJ (fj+1)) (Hx _ seed h fj hh dd))) fun e a5 w5 ⟨s',⟨he,hw⟩,Ux⟩=>?_
   subst he
   exact ⟨h-(fj+1),aj,fj+1,aj,rfl,Ux.oe (hJ (fj+1)) hw⟩
  ·have uz:fj=h:=by have:=of_decide_eq_false hf;omega
   subst uz
   refine wp_exit ?_
   exact ⟨.inl rfl,_,.inl NW⟩
 ·refine dD.ops hX (Hw _ seed h fj _) ⟨rfl,rfl,rfl,rfl,trivial⟩ fun a3 w3 NW=>?_
  have hv:=NW.val (x:=.tmp 32) (v:=.bool false) bD
  refine wp_cond_false hv (wp_exit ?_)
  exact ⟨.inl rfl,_,.inr NW⟩
end Go.Proofs.YtjgbhhnghedgdaaGreatDoor
