import Derived.Test.YtjgbhhnghedgdaaGreatDoorZbCb3
set_option linter.all false
namespace Go.Proofs.YtjgbhhnghedgdaaGreatDoor
open Go.RowKit
set_option maxRecDepth 100000
set_option maxHeartbeats 4000000
def OQ (h:Int):Int:=if bB h then 9 else 0
def LG (h:Int):Int:=if bB h then 0 else h
def Km (seed:UInt64) (h:Int):UInt64:=if bB h then 0 else fU seed h.toNat 0
theorem vz (seed:UInt64) (h:Int):bL Tryz.prog 85 [aw seed,ai h] (.bt [.agg [ai (LG h),aw (Km seed h)],ai (OQ h)]):=by
 by_cases hb:bB h
 ·have e1:OQ h=9:=if_pos hb
  have e2:LG h=0:=if_pos hb
  have e3:Km seed h=0:=if_pos hb
  refine zO Tryz.func85 15<|zq<|zS<|zP 1 [yH [(1,yV (ao (!decide (bB h))))]] [.aa [8,5,4,0,1] [4]] [yI (b_ h)]<|dB 8 (!!decide (bB h)) (by simp_all)<|bf.jX 1 [{}] [.aa [5,8,4,0,1] [4]] bk (s':=AS.mk [(5,ai 9),(8,ao (!!decide (bB h))),(4,AV.addr 4 0),(0,aw seed),(1,ai h)] [(4,Row.mk 1 false true [ai 0,cQ])]) (C:=[2≤2]) bk ⟨aj,trivial⟩<|dn (zV [yJ 0 (LG h) (by rw [e2]),yK 0 (wv (Km seed h)) (by rw [e3];rfl),yJ 9 (OQ h) (by rw [e1])])
 ·have e1:OQ h=0:=if_neg hb
  have e2:LG h=h:=if_neg hb
  have e3:Km seed h=fU seed h.toNat 0:=if_neg hb
  have rj:0≤h∧h≤4:=by unfold bB at hb;omega
  rw [e1,e2,e3]
  obtain ⟨k,rfl⟩:=Int.eq_ofNat_of_zero_le rj.1
  have hn:=rU seed k 0 aj (Nat.two_pow_pos _)
  rw [Int.toNat_natCast]
  generalize fU seed k 0=r at *
  refine zO Tryz.func85 15<|zq<|zS<|zP 1 [yH [(1,yV (ao (!decide (bB (↑k:Int)))))]] [.aa [8,5,4,0,1] [4]] [yI (b_ ((↑k:Int)))]<|bn 8 (!!decide (bB (↑k:Int))) (by simp_all)<|a_<|zP 1 [yH [(3,yV (aw r))]] [.aa [5,8,4,0,1] [4]] [yI hn,yL 2 2]<|zR (bR)
theorem iB (leaf:Int) (h:Nat) (hh:h≤4):bL Tryz.prog 95 [ai leaf,ai h] (ao (decide (leaf<0∨((2^h:Nat):Int)≤leaf))):=by
 rcases (aj:h=0∨h=1∨h=2∨h=3∨h=4) with rfl|rfl|rfl|rfl|rfl
 ·by_cases h1:leaf<0
  ·refine zO Tryz.func95 13<|zP 2 [{},{}] [.aa [4,0,1] []] (yM 5 (yT (leaf<0)))<|zR (zV [yB (Value.bool true=Value.bool (decide (leaf<0∨(↑((2:Nat)^0):Int)≤leaf))) (by simp [h1])])
  ·refine zO Tryz.func95 13<|zP 2 [{},yH ([(7,{b:=false})]++yg [3,4,5,6])] [.aa [4,0,1] []] (yM 3 (yF (leaf<0))++ [yO ((0:Int)≤(↑(0:Nat):Int))]++yM 2 (yF (leaf<0)))<|zR (zV [yB (Value.bool (decide (leaf≥IntKind.i64.wrap ((1:Int)*(2:Int)^min (↑(0:Nat):Int).toNat IntKind.i64.bits)))=Value.bool (decide (leaf<0∨(↑((2:Nat)^0):Int)≤leaf))) (by simp [h1];rfl)])
 ·by_cases h1:leaf<0
  ·refine zO Tryz.func95 13<|zP 2 [{},{}] [.aa [4,0,1] []] (yM 5 (yT (leaf<0)))<|zR (zV [yB (Value.bool true=Value.bool (decide (leaf<0∨(↑((2:Nat)^1):Int)≤leaf))) (by simp [h1])])
  ·refine zO Tryz.func95 13<|zP 2 [{},yH ([(7,{b:=false})]++yg [3,4,5,6])] [.aa [4,0,1] []] (yM 3 (yF (leaf<0))++ [yO ((0:Int)≤(↑(1:Nat):Int))]++yM 2 (yF (leaf<0)))<|zR (zV [yB (Value.bool (decide (leaf≥IntKind.i64.wrap ((1:Int)*(2:Int)^min (↑(1:Nat):Int).toNat IntKind.i64.bits)))=Value.bool (decide (leaf<0∨(↑((2:Nat)^1):Int)≤leaf))) (by simp [h1];rfl)])
 ·by_cases h1:leaf<0
  ·refine zO Tryz.func95 13<|zP 2 [{},{}] [.aa [4,0,1] []] (yM 5 (yT (leaf<0)))<|zR (zV [yB (Value.bool true=Value.bool (decide (leaf<0∨(↑((2:Nat)^2):Int)≤leaf))) (by simp [h1])])
  ·refine zO Tryz.func95 13<|zP 2 [{},yH ([(7,{b:=false})]++yg [3,4,5,6])] [.aa [4,0,1] []] (yM 3 (yF (leaf<0))++ [yO ((0:Int)≤(↑(2:Nat):Int))]++yM 2 (yF (leaf<0)))<|zR (zV [yB (Value.bool (decide (leaf≥IntKind.i64.wrap ((1:Int)*(2:Int)^min (↑(2:Nat):Int).toNat IntKind.i64.bits)))=Value.bool (decide (leaf<0∨(↑((2:Nat)^2):Int)≤leaf))) (by simp [h1];rfl)])
 ·by_cases h1:leaf<0
  ·refine zO Tryz.func95 13<|zP 2 [{},{}] [.aa [4,0,1] []] (yM 5 (yT (leaf<0)))<|zR (zV [yB (Value.bool true=Value.bool (decide (leaf<0∨(↑((2:Nat)^3):Int)≤leaf))) (by simp [h1])])
  ·refine zO Tryz.func95 13<|zP 2 [{},yH ([(7,{b:=false})]++yg [3,4,5,6])] [.aa [4,0,1] []] (yM 3 (yF (leaf<0))++ [yO ((0:Int)≤(↑(3:Nat):Int))]++yM 2 (yF (leaf<0)))<|zR (zV [yB (Value.bool (decide (leaf≥IntKind.i64.wrap ((1:Int)*(2:Int)^min (↑(3:Nat):Int).toNat IntKind.i64.bits)))=Value.bool (decide (leaf<0∨(↑((2:Nat)^3):Int)≤leaf))) (by simp [h1];rfl)])
 ·by_cases h1:leaf<0
  ·refine zO Tryz.func95 13<|zP 2 [{},{}] [.aa [4,0,1] []] (yM 5 (yT (leaf<0)))<|zR (zV [yB (Value.bool true=Value.bool (decide (leaf<0∨(↑((2:Nat)^4):Int)≤leaf))) (by simp [h1])])
  ·refine zO Tryz.func95 13<|zP 2 [{},yH ([(7,{b:=false})]++yg [3,4,5,6])] [.aa [4,0,1] []] (yM 3 (yF (leaf<0))++ [yO ((0:Int)≤(↑(4:Nat):Int))]++yM 2 (yF (leaf<0)))<|zR (zV [yB (Value.bool (decide (leaf≥IntKind.i64.wrap ((1:Int)*(2:Int)^min (↑(4:Nat):Int).toNat IntKind.i64.bits)))=Value.bool (decide (leaf<0∨(↑((2:Nat)^4):Int)≤leaf))) (by simp [h1];rfl)])
theorem KC (seed:UInt64) (h:Int):bL Tryz.prog 41 [aw seed,ai h] (.agg [ai (LG h),aw (Km seed h)]):=by
 refine zO Tryz.func41 14<|zP 3 [{},yH [(2,yV (AV.bt [AV.agg [ai (LG h),aw (Km seed h)],ai (OQ h)]))],{}] [.aa [5,4,0,1] [4,5]] [yI (vz seed h),yL 2 2,yL 2 2]<|zR (zV [yR (Value.int .i64 (LG h)),yR (Value.int .u64 (wv (Km seed h)))])
def dz (k:Nat):Mem:=⟨[109,u8 (48+(k:Int))],4,Km (300+u64 k) 4,0⟩
theorem Cb (i:Int):bL Tryz.prog 18 [ai i] (.agg (aF (dz (fV i 10)))):=by
 have hm:=s5 i (n:=10) aj
 have p2:LG 4=4:=by decide
 refine zO Tryz.func18 16<|zP 2 [{},{hs:=[(1,yV (ai (↑(fV i (10:Int)):Int))),(2,yV (ai ((48:Int)+(↑(fV i (10:Int)):Int)))),(3,yV (ab (u8 ((48:Int)+(↑(fV i (10:Int)):Int))))),(4,yV (AV.arr (ag [u8 ((48:Int)+(↑(fV i (10:Int)):Int))]))),(5,yV (AV.val (Value.string (ByteArray.mk #[u8 ((48:Int)+(↑(fV i (10:Int)):Int))])))),(8,yV (ai (↑(fV i (10:Int)):Int))),(9,yV (aw (u64 (↑(fV i (10:Int)):Int)))),(10,yV (aw (300+u64 (↑(fV i (10:Int)):Int)))),(11,yV (AV.agg [ai (LG (4:Int)),aw (Km (300+u64 (↑(fV i (10:Int)):Int)) (4:Int))]))],T:=12}] [.aa [2,0] [2]] [yI (sZ i ((10:Int)) aj aj),yN ((48:Int)+(↑(fV i (10:Int)):Int)),yI (i3 ((48:Int)+(↑(fV i (10:Int)):Int))),yR [ab (u8 ((48:Int)+(↑(fV i (10:Int)):Int)))],yR (ag [u8 ((48:Int)+(↑(fV i (10:Int)):Int))]),yB ((ByteArray.mk #[109]).size+(ByteArray.mk #[u8 ((48:Int)+(↑(fV i (10:Int)):Int))]).size≤9223372036854775807) (Nat.le_of_ble_eq_true rfl),yI (sZ i ((10:Int)) aj aj),yI (aY (↑(fV i (10:Int)):Int)),yR (aw (300+u64 (↑(fV i (10:Int)):Int))),yI (KC (300+u64 (↑(fV i (10:Int)):Int)) ((4:Int))),yL 4 4]<|zR (zV [yR (Value.string (ByteArray.mk (dz (fV i (10:Int))).name.toArray)),yR (Value.int .i64 (LG (4:Int))),yR (Value.int .u64 (wv (dz (fV i (10:Int))).r)),yR (Value.int .u64 0)])
theorem OX {i:Nat} (h:i<10):fV (i:Int) 10=i:=by
 unfold fV
 rw [Int.emod_eq_of_lt aj aj,Int.emod_eq_of_lt aj aj,Int.toNat_natCast]
theorem gu (i:Nat) (h:i<10):bL Tryz.prog 18 [ai i] (.agg (aF (dz i))):=by
 have:=Cb i
 rwa [OX h] at this
def Sp (g:gX):List AV:=[ai g.aB,aw g.head,ai g.bA,.own 4 (ae aF g.al),.own 7 (ae bg g.aO)]
theorem ia (h:Int) (r:UInt64):bL Tryz.prog 43 [.agg [ai h,aw r]] (.bt [.own 1 (ag (dk h r)),ai (eZ h)]):=by
 have hw:(words [r]).length=8:=by rw [dX];rfl
 by_cases h1:bB h
 ·have e:eZ h=9:=by rw [eZ,if_pos h1]
  have ed:dk h r= []:=by rw [dk,if_pos h1]
  refine zO Tryz.func43 16<|zq<|zS<|zQ 1 [yH [(2,yV (ao (decide (bB h))))]] [yI (h_ h)]<|gU 6 (bB h)<|zq<|dn (zV [yB (ag (dk h r)= []) (by rw [ed];rfl),yJ 9 (eZ h) (by rw [e])])
 ·have e:eZ h=0:=by rw [eZ,if_neg h1]
  have ed:dk h r=u8 h::words [r]:=by rw [dk,if_neg h1]
  refine zO Tryz.func43 16<|zq<|zS<|zQ 1 [yH [(2,yV (ao (decide (bB h))))]] [yI (h_ h)]<|dt 6 (bB h)<|a_<|zS<|Ql 8 [3] [(2,yV (ab (u8 h))),(3,yV (AV.arr (ag [u8 h]))),(6,yV (AV.arr (ah [r]))),(7,yV (AV.own 1 (ag (words [r])))),(8,yV (AV.arr (ag ([u8 h]++words [r]))))] [yI (i3 h),yR [ab (u8 h)],yI (aR [u8 h]),yR [aw r],yI (lM [r] (by simp only [List.length_cons,List.length_nil];omega)),yI (aR (words [r])),yR (ag ([u8 h]++words [r])),yL 9 140737488355328]<|aq<|bf.sU [.aa [3,2,6,1,0] [15,1]] bk<|zR (zV [yB (ag ([u8 h]++words [r])=ag (dk h r)) (by rw [ed];rfl),yJ 0 (eZ h) (by rw [e])])
theorem gF (h:Int) (r:UInt64):bL Tryz.prog 47 [.agg [ai h,aw r]] (.bt [.own 1 (ag (dk h r)),ai (eZ h)]):=by
 have hw:(words [r]).length=8:=by rw [dX];rfl
 by_cases h1:bB h
 ·have e:eZ h=9:=by rw [eZ,if_pos h1]
  have ed:dk h r= []:=by rw [dk,if_pos h1]
  refine zO Tryz.func47 17<|zq<|zS<|zP 1 [yH [(2,yV (ao (!decide (bB h))))]] [.aa [7,3,2,1,0] [1]] [yI (b_ h)]<|dB 7 (!!decide (bB h)) (by simp_all)<|zq<|dn (zV [yB (ag (dk h r)= []) (by rw [ed];rfl),yJ 9 (eZ h) (by rw [e])])
 ·have e:eZ h=0:=by rw [eZ,if_neg h1]
  have ed:dk h r=u8 h::words [r]:=by rw [dk,if_neg h1]
  refine zO Tryz.func47 17<|zq<|zS<|zP 1 [yH [(2,yV (ao (!decide (bB h))))]] [.aa [7,3,2,1,0] [1]] [yI (b_ h)]<|bn 7 (!!decide (bB h)) (by simp_all)<|a_<|zS<|Ql 8 [3] [(2,yV (ab (u8 h))),(3,yV (AV.arr (ag [u8 h]))),(6,yV (AV.arr (ah [r]))),(7,yV (AV.own 1 (ag (words [r])))),(8,yV (AV.arr (ag ([u8 h]++words [r]))))] [yI (i3 h),yR [ab (u8 h)],yI (aR [u8 h]),yR [aw r],yI (dE [r] (by simp only [List.length_cons,List.length_nil];omega)),yI (aR (words [r])),yR (ag ([u8 h]++words [r])),yL 9 140737488355328]<|aq<|bf.sU [.aa [3,2,7,1,0] [16,1]] bk<|zR (zV [yB (ag ([u8 h]++words [r])=ag (dk h r)) (by rw [ed];rfl),yJ 0 (eZ h) (by rw [e])])
structure gl where
 name:List UInt8
 leaf:Int
 bI:List UInt64
 path:List UInt64
def aP (v:gl):List AV:=[cF v.name,ai v.leaf,.sl 1 (ah v.bI),.sl 1 (ah v.path)]
structure eP where
 aB:Int
 prev:UInt64
 kind:Int
 name:List UInt8
 kh:Int
 kr:UInt64
 bA:Int
 dep:na
 bZ:UInt64
 target:UInt64
 ak:List gl
def a7 (e:eP):List AV:=[ai e.aB,aw e.prev,ai e.kind,cF e.name,ai e.kh,aw e.kr,ai e.bA,aw e.dep.bZ,aw e.dep.peer,.sl 1 (ag e.dep.box),.sl 1 (ae ay e.dep.af),.sl 1 (ah e.dep.au),ai e.dep.need,aw e.dep.target,aw e.bZ,aw e.target,.sl 4 (ae aP e.ak)]
theorem eF (x:List UInt8) (hx:x.length≤1000):bL Tryz.prog 42 [cF x] (ai (eg x)):=by
 by_cases c1:x.length<1
 ·have e:=pW (.inl c1)
  refine zO Tryz.func42 14<|zq<|zS<|zP 1 [yH [(1,yV (ai (↑x.length:Int)))]] [.aa [10,2,0] []] ([yR (ai (↑x.length:Int))]++yM 4 (yT ((↑x.length:Int)<1)))<|zT 10<|zq<|dn (zV [yJ 9 (eg x) (by rw [e])])
 by_cases c3:32<x.length
 ·have e:=pW (.inr c3)
  refine zO Tryz.func42 14<|zq<|zS<|zP 1 [yH ([(1,yV (ai (↑x.length:Int))),(5,{av:=some (ai (↑x.length:Int)),g:=false}),(7,{b:=false})]++yg [4,6])] [.aa [10,2,0] []] ([yR (ai (↑x.length:Int))]++yM 2 (yF ((↑x.length:Int)<1))++ [yR (ai (↑x.length:Int))]++yM 2 (yF ((↑x.length:Int)<1)))<|gU 10 ((↑x.length:Int)>32)<|zq<|dn (zV [yJ 9 (eg x) (by rw [e])])
 by_cases c2:Lib.validD x=false
 ·have e:=xz aj c2
  refine zO Tryz.func42 14<|zq<|zS<|zP 1 [yH ([(1,yV (ai (↑x.length:Int))),(5,{av:=some (ai (↑x.length:Int)),g:=false}),(7,{b:=false})]++yg [4,6])] [.aa [10,2,0] []] ([yR (ai (↑x.length:Int))]++yM 2 (yF ((↑x.length:Int)<1))++ [yR (ai (↑x.length:Int))]++yM 2 (yF ((↑x.length:Int)<1)))<|dt 10 ((↑x.length:Int)>32)<|a_<|zS<|zP 1 [yH [(1,yV (ao (Lib.validD x))),(2,yV (ao true))]] [.aa [13,10,2,0] []] [yI (km x aj),yB (ao (!Lib.validD x)=ao true) (by rw [c2];rfl)]<|zT 13<|zq<|dn (zV [yJ 6 (eg x) (by rw [e])])
 have c4:Lib.validD x=true:=by simpa using c2
 have e:=D7 aj c4
 refine zO Tryz.func42 14<|zq<|zS<|zP 1 [yH ([(1,yV (ai (↑x.length:Int))),(5,{av:=some (ai (↑x.length:Int)),g:=false}),(7,{b:=false})]++yg [4,6])] [.aa [10,2,0] []] ([yR (ai (↑x.length:Int))]++yM 2 (yF ((↑x.length:Int)<1))++ [yR (ai (↑x.length:Int))]++yM 2 (yF ((↑x.length:Int)<1)))<|dt 10 ((↑x.length:Int)>32)<|a_<|zS<|zP 1 [yH [(1,yV (ao (Lib.validD x))),(2,yV (ao false))]] [.aa [13,10,2,0] []] [yI (km x aj),yB (ao (!Lib.validD x)=ao false) (by rw [c4];rfl)]<|zF 13<|a_<|zq<|zR (zV [yJ 0 (eg x) (by rw [e])])
def iG (m:Mem):Int:=if eg m.name≠0 then eg m.name else if eZ m.h≠0 then eZ m.h else if m.used≠0 then 18 else 0
def dd (m:Mem):gX:=if iG m=0 then ⟨0,hash 16 (dk m.h m.r++m.name),1,[m],[]⟩ else ⟨0,0,0,[],[]⟩
instance:Inhabited gX:=⟨⟨0,0,0,[],[]⟩⟩
theorem nA (h:Int) (r:UInt64):(dk h r).length≤9:=by
 unfold dk
 split
 ·exact Nat.zero_le _
 ·have:(words [r]).length=8:=by rw [dX];rfl
  rw [List.length_cons];omega
theorem Bh (a b:List UInt8) (h:a.length+b.length≤1000000):bL Tryz.prog 45 [.sl 1 [.sl 1 (ag a),.sl 1 (ag b)]] (.own 1 (ag (a++b))):=by
 have:=Dp [a,b] (by simp [ft];omega) (by simp)
 rw [show [a,b].flatten=a++b by simp] at this
 exact this
theorem IE (m:Mem) (hm:m.name.length≤1000):bL Tryz.prog 19 [.agg (aF m)] (.bt [.agg (Sp (dd m)),ai (iG m)]):=by
 have hz:=qI m.name hm
 by_cases h1:eg m.name=0
 case neg =>
  have e1:iG m=eg m.name:=if_pos h1
  have e2:dd m=⟨0,0,0,[],[]⟩:=by unfold dd;rw [if_neg aj]
  refine zO Tryz.func19 40<|zq<|zS<|zP 2 [yH [(2,yV (ai (eg m.name)))],yH [(1,yV (ao true))]] [.aa [12,4,3,2,1,0] [2,1]] [yI (eF m.name hm),yB (ao (eg m.name != (0:Int))=ao true) (by simp [h1])]<|zT 12<|zP 1 [{}] [.aa [3,12,4,2,1,0] [2,1]] [yL 5 5]<|dn (zV [yJ 0 ((dd m).aB) (by rw [e2]),yK 0 (wv (dd m).head) (by rw [e2];rfl),yJ 0 ((dd m).bA) (by rw [e2]),yB (ae aF (dd m).al= []) (by rw [e2];rfl),yB (ae bg (dd m).aO= []) (by rw [e2];rfl),yJ (eg m.name) (iG m) (by rw [e1])])
 by_cases h2:eZ m.h=0
 case neg =>
  have e1:iG m=eZ m.h:=by unfold iG;rw [if_neg aj,if_pos h2]
  have e2:dd m=⟨0,0,0,[],[]⟩:=by unfold dd;rw [if_neg aj]
  refine zO Tryz.func19 40<|zq<|zS<|zP 2 [yH [(2,yV (ai (eg m.name)))],yH [(1,yV (ao false))]] [.aa [12,4,3,2,1,0] [2,1]] [yI (eF m.name hm),yB (ao (eg m.name != (0:Int))=ao false) (by simp [h1])]<|zF 12<|a_<|zP 1 [yH [(2,yV (AV.bt [AV.own 1 (ag (dk m.h m.r)),ai (eZ m.h)]))]] [.aa [6,5,12,4,3,2,1,0] [1018,2,1]] [yI (ia m.h m.r),yI (aR (dk m.h m.r))]<|zS<|zQ 1 [yH [(1,yV (ao true))]] [yB (ao (eZ m.h != (0:Int))=ao true) (by simp [h2])]<|zT 22<|zP 1 [{}] [.aa [3,22,6,5,12,4,2,1,0] [2,1018,1]] [yL 5 5]<|dn (zV [yJ 0 ((dd m).aB) (by rw [e2]),yK 0 (wv (dd m).head) (by rw [e2];rfl),yJ 0 ((dd m).bA) (by rw [e2]),yB (ae aF (dd m).al= []) (by rw [e2];rfl),yB (ae bg (dd m).aO= []) (by rw [e2];rfl),yJ (eZ m.h) (iG m) (by rw [e1])])
 by_cases h3:m.used=0
 case neg =>
  have e1:iG m=18:=by unfold iG;rw [if_neg aj,if_neg aj,if_pos h3]
  have e2:dd m=⟨0,0,0,[],[]⟩:=by unfold dd;rw [if_neg aj]
  refine zO Tryz.func19 40<|zq<|zS<|zP 2 [yH [(2,yV (ai (eg m.name)))],yH [(1,yV (ao false))]] [.aa [12,4,3,2,1,0] [2,1]] [yI (eF m.name hm),yB (ao (eg m.name != (0:Int))=ao false) (by simp [h1])]<|zF 12<|a_<|zP 1 [yH [(2,yV (AV.bt [AV.own 1 (ag (dk m.h m.r)),ai (eZ m.h)]))]] [.aa [6,5,12,4,3,2,1,0] [1018,2,1]] [yI (ia m.h m.r),yI (aR (dk m.h m.r))]<|zS<|zQ 1 [yH [(1,yV (ao false))]] [yB (ao (eZ m.h != (0:Int))=ao false) (by simp [h2])]<|zF 22<|a_<|zS<|zP 1 [yH [(2,yV (ao (m.used != 0)))]] [.aa [27,22,6,5,12,4,3,2,1,0] [1018,2,1]] [yI (cN m.used 0)]<|dB 27 (m.used != 0) (by simp_all)<|zP 1 [{}] [.aa [3,27,22,6,5,12,4,2,1,0] [2,1018,1]] [yL 5 5]<|dn (zV [yJ 0 ((dd m).aB) (by rw [e2]),yK 0 (wv (dd m).head) (by rw [e2];rfl),yJ 0 ((dd m).bA) (by rw [e2]),yB (ae aF (dd m).al= []) (by rw [e2];rfl),yB (ae bg (dd m).aO= []) (by rw [e2];rfl),yJ 18 (iG m) (by rw [e1])])
 have e1:iG m=0:=by unfold iG;rw [if_neg aj,if_neg aj,if_neg (by simp [h3])]
 have e2:dd m=⟨0,hash 16 (dk m.h m.r++m.name),1,[m],[]⟩:=by unfold dd;rw [if_pos e1]
 have hk:=nA m.h m.r
 refine zO Tryz.func19 40<|zq<|zS<|zP 2 [yH [(2,yV (ai (eg m.name)))],yH [(1,yV (ao false))]] [.aa [12,4,3,2,1,0] [2,1]] [yI (eF m.name hm),yB (ao (eg m.name != (0:Int))=ao false) (by simp [h1])]<|zF 12<|a_<|zP 1 [yH [(2,yV (AV.bt [AV.own 1 (ag (dk m.h m.r)),ai (eZ m.h)]))]] [.aa [6,5,12,4,3,2,1,0] [1018,2,1]] [yI (ia m.h m.r),yI (aR (dk m.h m.r))]<|zS<|zQ 1 [yH [(1,yV (ao false))]] [yB (ao (eZ m.h != (0:Int))=ao false) (by simp [h2])]<|zF 22<|a_<|zS<|zP 1 [yH [(2,yV (ao (m.used != 0)))]] [.aa [27,22,6,5,12,4,3,2,1,0] [1018,2,1]] [yI (cN m.used 0)]<|bn 27 (m.used != 0) (by simp_all)<|a_<|zP 2 [yH [(5,yV (AV.own 1 (ag (dk m.h m.r++m.name.toArray.toList)))),(6,yV (aw (hash (16:Int) (dk m.h m.r++m.name.toArray.toList))))],{}] [.aa [3,7,27,22,6,5,12,4,2,1,0] [2,38,1]] [yI hz,yI (Bh (dk m.h m.r) m.name.toArray.toList (by simp only [];omega)),yI (aR (dk m.h m.r++m.name.toArray.toList)),yI (nI ((16:Int)) (dk m.h m.r++m.name.toArray.toList)),yL 5 5]<|zR (zV [yJ 0 ((dd m).aB) (by rw [e2]),yK (wv (hash (16:Int) (dk m.h m.r++m.name.toArray.toList))) (wv (dd m).head) (by rw [e2]),yJ 1 ((dd m).bA) (by rw [e2]),yB ((aF m)=ae aF (dd m).al) (by rw [e2];rfl),yB (ae bg (dd m).aO= []) (by rw [e2];rfl),yJ 0 (iG m) (by rw [e1])])
def Sq (g:gX):List AV:=[ai g.aB,aw g.head,ai g.bA,.sl 4 (ae aF g.al),.own 7 (ae bg g.aO)]
theorem BV (m:Mem) (hm:m.name.length≤1000):bL Tryz.prog 20 [.agg (aF m)] (.bt [.agg (Sq (dd m)),ai (iG m)]):=by
 have hz:=qI m.name hm
 by_cases h1:eg m.name=0
 case neg =>
  have e1:iG m=eg m.name:=if_pos h1
  have e2:dd m=⟨0,0,0,[],[]⟩:=by unfold dd;rw [if_neg aj]
  refine zO Tryz.func20 36<|zq<|zS<|zP 2 [yH [(2,yV (ai (eg m.name)))],yH [(1,yV (ao true))]] [.aa [11,4,3,2,1,0] [2,1]] [yI (fD m.name hm),yB (ao (eg m.name != (0:Int))=ao true) (by simp [h1])]<|zT 11<|zP 1 [{}] [.aa [3,11,4,2,1,0] [2,1]] [yL 5 5]<|dn (zV [yJ 0 ((dd m).aB) (by rw [e2]),yK 0 (wv (dd m).head) (by rw [e2];rfl),yJ 0 ((dd m).bA) (by rw [e2]),yB (ae aF (dd m).al= []) (by rw [e2];rfl),yB (ae bg (dd m).aO= []) (by rw [e2];rfl),yJ (eg m.name) (iG m) (by rw [e1])])
 by_cases h2:eZ m.h=0
 case neg =>
  have e1:iG m=eZ m.h:=by unfold iG;rw [if_neg aj,if_pos h2]
  have e2:dd m=⟨0,0,0,[],[]⟩:=by unfold dd;rw [if_neg aj]
  refine zO Tryz.func20 36<|zq<|zS<|zP 2 [yH [(2,yV (ai (eg m.name)))],yH [(1,yV (ao false))]] [.aa [11,4,3,2,1,0] [2,1]] [yI (fD m.name hm),yB (ao (eg m.name != (0:Int))=ao false) (by simp [h1])]<|zF 11<|a_<|zP 1 [yH [(2,yV (AV.bt [AV.own 1 (ag (dk m.h m.r)),ai (eZ m.h)]))]] [.aa [6,5,11,4,3,2,1,0] [1017,2,1]] [yI (gF m.h m.r),yI (aR (dk m.h m.r))]<|zS<|zQ 1 [yH [(1,yV (ao true))]] [yB (ao (eZ m.h != (0:Int))=ao true) (by simp [h2])]<|zT 21<|zP 1 [{}] [.aa [3,21,6,5,11,4,2,1,0] [2,1017,1]] [yL 5 5]<|dn (zV [yJ 0 ((dd m).aB) (by rw [e2]),yK 0 (wv (dd m).head) (by rw [e2];rfl),yJ 0 ((dd m).bA) (by rw [e2]),yB (ae aF (dd m).al= []) (by rw [e2];rfl),yB (ae bg (dd m).aO= []) (by rw [e2];rfl),yJ (eZ m.h) (iG m) (by rw [e1])])
 by_cases h3:m.used=0
 case neg =>
  have e1:iG m=18:=by unfold iG;rw [if_neg aj,if_neg aj,if_pos h3]
  have e2:dd m=⟨0,0,0,[],[]⟩:=by unfold dd;rw [if_neg aj]
  refine zO Tryz.func20 36<|zq<|zS<|zP 2 [yH [(2,yV (ai (eg m.name)))],yH [(1,yV (ao false))]] [.aa [11,4,3,2,1,0] [2,1]] [yI (fD m.name hm),yB (ao (eg m.name != (0:Int))=ao false) (by simp [h1])]<|zF 11<|a_<|zP 1 [yH [(2,yV (AV.bt [AV.own 1 (ag (dk m.h m.r)),ai (eZ m.h)]))]] [.aa [6,5,11,4,3,2,1,0] [1017,2,1]] [yI (gF m.h m.r),yI (aR (dk m.h m.r))]<|zS<|zQ 1 [yH [(1,yV (ao false))]] [yB (ao (eZ m.h != (0:Int))=ao false) (by simp [h2])]<|zF 21<|a_<|zS<|zP 1 [yH [(2,yV (ao (m.used != 0)))]] [.aa [26,21,6,5,11,4,3,2,1,0] [1017,2,1]] [yI (cN m.used 0)]<|dB 26 (m.used != 0) (by simp_all)<|zP 1 [{}] [.aa [3,26,21,6,5,11,4,2,1,0] [2,1017,1]] [yL 5 5]<|dn (zV [yJ 0 ((dd m).aB) (by rw [e2]),yK 0 (wv (dd m).head) (by rw [e2];rfl),yJ 0 ((dd m).bA) (by rw [e2]),yB (ae aF (dd m).al= []) (by rw [e2];rfl),yB (ae bg (dd m).aO= []) (by rw [e2];rfl),yJ 18 (iG m) (by rw [e1])])
 have e1:iG m=0:=by unfold iG;rw [if_neg aj,if_neg aj,if_neg (by simp [h3])]
 have e2:dd m=⟨0,hash 16 (dk m.h m.r++m.name),1,[m],[]⟩:=by unfold dd;rw [if_pos e1]
 have hk:=nA m.h m.r
 have RO:(ag (dk m.h m.r)).length≤9:=by rw [aA];exact hk
 have yZ:(ag m.name.toArray.toList).length≤1000:=by rw [aA];exact hm
 refine zO Tryz.func20 36<|zq<|zS<|zP 2 [yH [(2,yV (ai (eg m.name)))],yH [(1,yV (ao false))]] [.aa [11,4,3,2,1,0] [2,1]] [yI (fD m.name hm),yB (ao (eg m.name != (0:Int))=ao false) (by simp [h1])]<|zF 11<|a_<|zP 1 [yH [(2,yV (AV.bt [AV.own 1 (ag (dk m.h m.r)),ai (eZ m.h)]))]] [.aa [6,5,11,4,3,2,1,0] [1017,2,1]] [yI (gF m.h m.r),yI (aR (dk m.h m.r))]<|zS<|zQ 1 [yH [(1,yV (ao false))]] [yB (ao (eZ m.h != (0:Int))=ao false) (by simp [h2])]<|zF 21<|a_<|zS<|zP 1 [yH [(2,yV (ao (m.used != 0)))]] [.aa [26,21,6,5,11,4,3,2,1,0] [1017,2,1]] [yI (cN m.used 0)]<|bn 26 (m.used != 0) (by simp_all)<|a_<|zS<|y8 7 [3] [(3,{av:=some (AV.arr (ag (dk m.h m.r++m.name.toArray.toList))),b:=false}),(4,yV (aw (hash (16:Int) (dk m.h m.r++m.name.toArray.toList))))] [yB (ag (dk m.h m.r)++ag m.name.toArray.toList=ag (dk m.h m.r++m.name.toArray.toList)) (da _ _),yB (cI (ag m.name.toArray.toList)) (fQ _),yO (((ag (dk m.h m.r)).length+(ag m.name.toArray.toList).length)*1≤140737488355328),yI (iy ((16:Int)) (dk m.h m.r++m.name.toArray.toList) (by simp only [List.length_append];omega)),yR (AV.agg (aF m)),yR (AV.sl 4 (aF m)),yL 5 5]<|aq<|bf.sU [.aa [3,26,21,6,11,4,2,1,0] [2,1]] bk<|zR (zV [yJ 0 ((dd m).aB) (by rw [e2]),yK (wv (hash (16:Int) (dk m.h m.r++m.name.toArray.toList))) (wv (dd m).head) (by rw [e2]),yJ 1 ((dd m).bA) (by rw [e2]),yB ((aF m)=ae aF (dd m).al) (by rw [e2];rfl),yB (ae bg (dd m).aO= []) (by rw [e2];rfl),yJ 0 (iG m) (by rw [e1])])
theorem nY {l:List Mem} {i:Nat} (h:i<l.length):List.take 4 (List.drop (i*4) (ae aF l))=aF (l.getD i default):=ku (e:=4) (fun _=>rfl) h
def vd (d:na):Prop:=d.bZ=0∧d.peer=0∧d.box.length=0∧d.af.length=0∧d.au.length=0∧d.need=0∧d.target=0
instance (d:na):Decidable (vd d):=inferInstanceAs (Decidable (_∧_∧_∧_∧_∧_∧_))
def fi (e:eP):Prop:=(e.kind=1∨e.kind=2∨e.name= [])∧(e.kind=1∨e.kh=0∧e.kr=0)∧(e.kind=3∨e.bA=0)∧(e.kind=4∨vd e.dep)∧(e.kind=5∨e.bZ=0∧e.target=0)∧e.dep.target=0
instance (e:eP):Decidable (fi e):=inferInstanceAs (Decidable (_∧_∧_∧_∧_∧_))
def fF (d:na):Int:=if 1024<d.box.length then 8 else if nP d.af.length d.need then 9 else if d.au.length≠d.af.length then 4 else ff (mF d.af) d.af.length
def ve (d:na):List fH:=[aH d.bZ,aH d.peer,dZ d.box]++(bD (u64 d.af.length)::d.af.map cC)++(bD (u64 d.au.length)::d.au.map aH)++ [aH (u64 d.need)]
def fa (e:eP):Int:=if e.kind=1 then (if eg e.name≠0 then eg e.name else eZ e.kh) else if e.kind=2 then eg e.name else if e.kind=3 then (if e.bA<1∨8<e.bA then 9 else 0) else if e.kind=4 then fF e.dep else if e.target=0 then 9 else 0
def gf (e:eP):List fH:=if e.kind=1 then [cC e.name,dZ (dk e.kh e.kr)] else if e.kind=2 then [cC e.name] else if e.kind=3 then [aH (u64 e.bA)] else if e.kind=4 then ve e.dep else [aH e.bZ,aH e.target]
def fB (k:Int):Nat:=if k=1∨k=5 then 2 else if k=4 then 6 else 1
def eu (e:eP):Int:=if e.kind<1∨5<e.kind then 3 else if ¬fi e then 4 else if e.aB<1∨2147483647<e.aB then 9 else fa e
def fS (e:eP):List fH:=bD (u64 (3+fB e.kind)):: [aH (u64 e.aB),aH e.prev,aH (u64 e.kind)]++gf e
def fo (e:eP):List UInt8:=if eu e=0 then gB (fS e) else []
def df (e:eP):UInt64:=hash 16 (fo e)
def i5 (e:eP):List (List fH):=if e.kind=4 then [[aH e.dep.bZ],[aH e.dep.peer],[dZ e.dep.box],bD (u64 e.dep.af.length)::e.dep.af.map cC,bD (u64 e.dep.au.length)::e.dep.au.map aH,[aH (u64 e.dep.need)]] else (gf e).map fun x=>[x]
theorem Hz {x:List UInt8} (h:eg x=0):1≤x.length∧x.length≤32:=by
 apply Classical.byContradiction
 intro q
 have:=pW (x:=x) aj
 omega
theorem Hy {x:List UInt8} (h:eg x=0):Lib.validD x=true:=by
 have:=Hz h
 cases e:Lib.validD x with
 | true=>rfl
 | false=>have:=xz (x:=x) aj e;omega
theorem Ik {l:List (List UInt8)} {i:Nat} (h:mF l i=0):eg (l.getD i default)=0:=by
 apply Classical.byContradiction
 intro q
 rw [Im rfl q] at h
 exact q h
theorem sY {x:List UInt8} (h:eg x=0):eT (cC x):=.text (by have:=Hz h;omega) (Hy h)
structure Qk (d:na):Prop where
 box:d.box.length≤1024
 n1:1≤d.af.length
 n8:d.af.length≤8
 need:1≤d.need∧d.need≤d.af.length
 Nx:d.au.length=d.af.length
 AB:∀x∈d.af,eg x=0
theorem Jh {d:na} (h:fF d=0):Qk d:=by
 unfold fF at h
 by_cases c1:1024<d.box.length
 ·rw [if_pos c1] at h;omega
 rw [if_neg c1] at h
 by_cases c2:nP d.af.length d.need
 ·rw [if_pos c2] at h;omega
 rw [if_neg c2] at h
 by_cases c3:d.au.length≠d.af.length
 ·rw [if_pos c3] at h;omega
 rw [if_neg c3] at h
 unfold nP at c2
 refine ⟨aj,aj,aj,aj,aj,fun x hx=>?_⟩
 obtain ⟨i,hi,rfl⟩:=List.mem_iff_getElem.1 hx
 have:=Ik (x7 h i hi)
 rwa [List.getD_eq_getElem?_getD,List.getElem?_eq_getElem hi] at this
theorem mC {T:Type} {f:T->fH} {l:List T} (h:∀x∈l,eT (f x)):∀y∈l.map f,eT y:=fun y hy=>by
 obtain ⟨x,hx,rfl⟩:=List.mem_map.1 hy
 exact h x hx
theorem HS (h:Int) (r:UInt64):eT (dZ (dk h r)):=.byte (by have:=nA h r;omega)
theorem ld {x:fH} (h:eT x):eO x.kind∧x.cD.length≤10000:=by
 refine ⟨?_,by have:=h.cD;omega⟩
 rcases h.kind with q|q|q
 ·exact .inl q
 ·exact .inr (.inl q)
 ·exact .inr (.inr (.inl q))
theorem mM (n:UInt64):eO (bD n).kind∧(bD n).cD.length≤10000:=⟨.inr (.inr (.inr rfl)),Nat.zero_le _⟩
structure NU (e:eP):Prop where
 TU:JB ([[aH (u64 e.aB)],[aH e.prev],[aH (u64 e.kind)]]++i5 e)
 V9:ff (oA ([[aH (u64 e.aB)],[aH e.prev],[aH (u64 e.kind)]]++i5 e)) (3+(i5 e).length)=0
 arr:pz ([[aH (u64 e.aB)],[aH e.prev],[aH (u64 e.kind)]]++i5 e)=fS e
 VK:eU (fS e)=0
 len:(fS e).length≤30
 SL:∀x∈fS e,eO x.kind∧x.cD.length≤10000
 n6:(i5 e).length≤6
theorem CF {e:eP} (h:fa e=0) (h4:e.kind≠4):∀x∈gf e,eT x:=by
 intro x hx
 unfold fa at h
 unfold gf at hx
 by_cases k1:e.kind=1
 ·rw [if_pos k1] at h hx
  have hn:eg e.name=0:=by
   apply Classical.byContradiction;intro q;rw [if_pos q] at h;exact q h
  simp only [List.mem_cons,List.not_mem_nil,or_false] at hx
  rcases hx with rfl|rfl
  ·exact sY hn
  ·exact HS _ _
 rw [if_neg k1] at h hx
 by_cases k2:e.kind=2
 ·rw [if_pos k2] at h hx
  obtain rfl:=List.mem_singleton.1 hx
  exact sY h
 rw [if_neg k2] at h hx
 by_cases k3:e.kind=3
 ·rw [if_pos k3] at hx
  obtain rfl:=List.mem_singleton.1 hx
  exact .uint _
 rw [if_neg k3] at hx
 rw [if_neg h4] at hx
 simp only [List.mem_cons,List.not_mem_nil,or_false] at hx
 rcases hx with rfl|rfl
 ·exact .uint _
 ·exact .uint _
theorem K7 {e:eP} (hk:1≤e.kind∧e.kind≤5) (h4:e.kind≠4):(gf e).length=fB e.kind:=by
 unfold gf fB
 by_cases k1:e.kind=1
 ·rw [if_pos k1,if_pos (.inl k1)];rfl
 rw [if_neg k1]
 by_cases k2:e.kind=2
 ·rw [if_pos k2,if_neg aj,if_neg h4];rfl
 rw [if_neg k2]
 by_cases k3:e.kind=3
 ·rw [if_pos k3,if_neg aj,if_neg h4];rfl
 rw [if_neg k3,if_neg h4,if_pos aj];rfl
theorem DI (k:Int):1≤fB k∧fB k≤6:=by unfold fB;split<;>(try split)<;>omega
theorem EC {f:Nat->Int}:∀ {n:Nat},(∀j,j<n->f j=0)->ff f n=0
 | 0,_=>rfl
 | n+1,h=>by
  show (if _ then _ else _)=_
  rw [if_neg (by rw [EC fun j hj=>h j aj];decide)]
  exact h n aj
theorem Np {vs:List (List fH)} (h:∀v∈vs,eU v=0):ff (oA vs) vs.length=0:=EC fun j hj=>by
 show eU (vs.getD j default)=0
 rw [List.getD_eq_getElem?_getD,List.getElem?_eq_getElem hj]
 exact h _ (List.getElem_mem hj)
theorem ze {n:UInt64} {xs:List fH} (hx:∀x∈xs,eT x) (hn:wv n=xs.length) (h1:1≤xs.length) (h2:xs.length≤100):eU (bD n::xs)=0:=DG hx hn h1 h2
theorem yz {e:eP} (h:eu e=0):NU e:=by
 unfold eu at h
 by_cases k0:e.kind<1∨5<e.kind
 ·rw [if_pos k0] at h;omega
 rw [if_neg k0] at h
 by_cases c1:¬fi e
 ·rw [if_pos c1] at h;omega
 rw [if_neg c1] at h
 by_cases c2:e.aB<1∨2147483647<e.aB
 ·rw [if_pos c2] at h;omega
 rw [if_neg c2] at h
 have ht:=DI e.kind
 have hw:wv (u64 (3+fB e.kind))=(3+fB e.kind:Nat):=by rw [show (3:Int)+fB e.kind=((3+fB e.kind:Nat):Int) by omega,qG];omega
 have h3:∀x∈ [aH (u64 e.aB),aH e.prev,aH (u64 e.kind)],eT x:=fun x hx=>by
  simp only [List.mem_cons,List.not_mem_nil,or_false] at hx
  rcases hx with rfl|rfl|rfl<;>exact .uint _
 by_cases k4:e.kind=4
 ·have hd:fF e.dep=0:=by
   unfold fa at h
   rwa [if_neg aj,if_neg aj,if_neg aj,if_pos k4] at h
  have ok:=Jh hd
  have n1:=ok.n1
  have n8:=ok.n8
  have UQ:=ok.Nx
  have hH:∀x∈e.dep.af.map cC,eT x:=mC fun x hx=>sY (ok.AB x hx)
  have hD:∀x∈e.dep.au.map aH,eT x:=mC fun x _=>.uint x
  have hB:eT (dZ e.dep.box):=.byte ok.box
  have wH:wv (u64 (e.dep.af.length:Int))=(e.dep.af.map cC).length:=by rw [qG,List.length_map];omega
  have wD:wv (u64 (e.dep.au.length:Int))=(e.dep.au.map aH).length:=by rw [qG,List.length_map];omega
  have tk:fB e.kind=6:=by unfold fB;rw [if_neg aj,if_pos k4]
  have hv:i5 e= [[aH e.dep.bZ],[aH e.dep.peer],[dZ e.dep.box],bD (u64 e.dep.af.length)::e.dep.af.map cC,bD (u64 e.dep.au.length)::e.dep.au.map aH,[aH (u64 e.dep.need)]]:=if_pos k4
  have hf:gf e=ve e.dep:=by unfold gf;rw [if_neg aj,if_neg aj,if_neg aj,if_pos k4]
  have Gu:(e.dep.af.map cC).length=e.dep.af.length:=List.length_map ..
  have Cq:(e.dep.au.map aH).length=e.dep.af.length:=by rw [List.length_map];exact UQ
  have each:∀v∈ [[aH (u64 e.aB)],[aH e.prev],[aH (u64 e.kind)]]++i5 e,v.length≤20∧eU v=0∧ ∀x∈v,eO x.kind∧x.cD.length≤10000:=by
   have one:∀x,eT x-> [x].length≤20∧eU [x]=0∧ ∀y∈ [x],eO y.kind∧y.cD.length≤10000:=fun x hx=>⟨by simp,zd hx,fun y hy=>by obtain rfl:=List.mem_singleton.1 hy;exact ld hx⟩
   intro v H0
   rw [hv] at H0
   simp only [List.cons_append,List.nil_append,List.mem_cons,List.not_mem_nil,or_false] at H0
   rcases H0 with rfl|rfl|rfl|rfl|rfl|rfl|rfl|rfl|rfl
   ·exact one _ (.uint _)
   ·exact one _ (.uint _)
   ·exact one _ (.uint _)
   ·exact one _ (.uint _)
   ·exact one _ (.uint _)
   ·exact one _ hB
   ·refine ⟨by rw [List.length_cons,Gu];omega,ze hH wH aj aj,fun y hy=>?_⟩
    rcases List.mem_cons.1 hy with rfl|hy
    ·exact mM _
    ·exact ld (hH y hy)
   ·refine ⟨by rw [List.length_cons,Cq];omega,ze hD wD aj aj,fun y hy=>?_⟩
    rcases List.mem_cons.1 hy with rfl|hy
    ·exact mM _
    ·exact ld (hD y hy)
   ·exact one _ (.uint _)
  have Oe:([[aH (u64 e.aB)],[aH e.prev],[aH (u64 e.kind)]]++i5 e).length=9:=by rw [hv];rfl
  have ha:pz ([[aH (u64 e.aB)],[aH e.prev],[aH (u64 e.kind)]]++i5 e)=fS e:=by
   unfold pz fS
   rw [Oe,hf,hv,tk]
   unfold ve
   simp
  have LS:(fS e).length=10+2*e.dep.af.length:=by
   unfold fS
   rw [hf]
   unfold ve
   simp only [List.length_cons,List.length_append,Gu,Cq,List.length_nil]
   omega
  refine ⟨⟨by rw [Oe];omega,fun v h=>(each v h).1,fun v h x hx=>((each v h).2.2 x hx).1,fun v h x hx=>((each v h).2.2 x hx).2⟩,?_,ha,?_,aj,?_,by rw [hv];exact Nat.le_refl _⟩
  ·have:=Np fun v h=>(each v h).2.1
   rw [Oe] at this
   rw [show 3+(i5 e).length=9 by rw [hv];rfl]
   exact this
  ·refine J0 aj ?_
   have w9:wv (u64 (3+fB e.kind))=9:=by rw [hw,tk];rfl
   have e1:fS e=bD (u64 (3+fB e.kind))::([aH (u64 e.aB),aH e.prev,aH (u64 e.kind),aH e.dep.bZ,aH e.dep.peer,dZ e.dep.box]++((bD (u64 e.dep.af.length)::e.dep.af.map cC)++((bD (u64 e.dep.au.length)::e.dep.au.map aH)++ [aH (u64 e.dep.need)]))):=by
    unfold fS
    rw [hf]
    unfold ve
    simp
   have l6:∀x∈ [aH (u64 e.aB),aH e.prev,aH (u64 e.kind),aH e.dep.bZ,aH e.dep.peer,dZ e.dep.box],eT x:=fun x hx=>by
    simp only [List.mem_cons,List.not_mem_nil,or_false] at hx
    rcases hx with rfl|rfl|rfl|rfl|rfl|rfl
    ·exact .uint _
    ·exact .uint _
    ·exact .uint _
    ·exact .uint _
    ·exact .uint _
    ·exact hB
   rw [e1,G8 _ aj aj,w9,nm,tN (by simp) l6 (show ((6:Nat):Int)<9 by omega) (aj:1+6≤500)]
   show lu ([]++ [(9:Int)-6]) (1+6) _=_
   rw [nm,wj (by simp) hH wH aj (by decide) aj]
   show lu ([]++ [(9:Int)-6-1]) (1+6+(bD (u64 e.dep.af.length)::e.dep.af.map cC).length) _=_
   rw [List.length_cons,Gu,nm,wj (by simp) hD wD aj (by decide) aj]
   show lu ([]++ [(([aH (u64 e.dep.need)]:List fH).length:Int)]) _ [aH (u64 e.dep.need)]=_
   have RM:(bD (u64 (e.dep.au.length:Int))::e.dep.au.map aH).length=e.dep.af.length+1:=by rw [List.length_cons,Cq]
   rw [RM]
   exact tO (f:=[]) (xs:=[aH (u64 e.dep.need)]) (Nat.zero_le _) (fun x hx=>by obtain rfl:=List.mem_singleton.1 hx;exact .uint _) Nat.zero_lt_one (by show _+1≤_;omega)
  ·intro x hx
   rw [←ha] at hx
   unfold pz at hx
   rcases List.mem_cons.1 hx with rfl|hx
   ·exact mM _
   ·obtain ⟨v,ML,MK⟩:=List.mem_flatten.1 hx
    exact (each v ML).2.2 x MK
 ·have KO:=CF h k4
  have LS:=K7 (e:=e) aj k4
  have hv:i5 e=(gf e).map fun x=>[x]:=if_neg k4
  have S5:∀x∈ [aH (u64 e.aB),aH e.prev,aH (u64 e.kind)]++gf e,eT x:=fun x hx=>by
   rcases List.mem_append.1 hx with hx|hx
   ·exact h3 x hx
   ·exact KO x hx
  have Tm:([aH (u64 e.aB),aH e.prev,aH (u64 e.kind)]++gf e).length=3+fB e.kind:=by rw [List.length_append,LS];rfl
  obtain ⟨v1,v2,v3,v4⟩:=o_ S5 aj aj
  have hm:([aH (u64 e.aB),aH e.prev,aH (u64 e.kind)]++gf e).map (fun x=>[x])= [[aH (u64 e.aB)],[aH e.prev],[aH (u64 e.kind)]]++i5 e:=by rw [List.map_append,hv];rfl
  rw [hm] at v1 v2 v3 v4
  have ha:pz ([[aH (u64 e.aB)],[aH e.prev],[aH (u64 e.kind)]]++i5 e)=fS e:=by
   rw [v4,Tm]
   unfold fS
   rw [show ((3+fB e.kind:Nat):Int)=3+fB e.kind by omega];rfl
  have MY:(fS e).length=1+(3+fB e.kind):=by
   rw [←ha,v4,List.length_cons,Tm];omega
  refine ⟨v1,?_,ha,by rw [←ha];exact v3,aj,fun x hx=>?_,by rw [hv,List.length_map];omega⟩
  ·rw [List.length_append] at v2
   exact v2
  ·rw [←ha,v4] at hx
   rcases List.mem_cons.1 hx with rfl|hx
   ·exact mM _
   ·exact ld (S5 x hx)
def dJ (l:List Mem) (h:List UInt8):Int:=if (∃m∈l,m.name=h) then (l.findIdx (fun m=>m.name == h):Int) else -1
theorem xD {l:List Mem} {h:List UInt8} (hn:∀j,j<l.length->(l.getD j default).name≠h):dJ l h= -1:=by
 unfold dJ
 rw [if_neg]
 rintro ⟨m,hm,e⟩
 obtain ⟨j,hj,e2⟩:=List.getElem_of_mem hm
 exact hn j hj (by rw [List.getD_eq_getElem?_getD,List.getElem?_eq_getElem hj];show l[j].name=h;rw [e2];exact e)
theorem xF {l:List Mem} {h:List UInt8} {i:Nat} (hi:i<l.length) (hn:∀j,j<i->(l.getD j default).name≠h) (e:(l.getD i default).name=h):dJ l h=i:=by
 rw [List.getD_eq_getElem?_getD,List.getElem?_eq_getElem hi] at e
 have e:l[i].name=h:=e
 unfold dJ
 rw [if_pos ⟨l[i],List.getElem_mem hi,e⟩]
 have:l.findIdx (fun m=>m.name == h)=i:=(List.findIdx_eq hi).2 ⟨by simpa using e,fun j hj=>by
  have:=hn j hj
  rw [List.getD_eq_getElem?_getD,List.getElem?_eq_getElem aj] at this
  simpa using this⟩
 rw [this]
theorem Cg (seed:UInt64) (h:Int):bL Tryz.prog 97 [aw seed,ai h] (.lK 142 [.ptr [ai h] 0,.ptr [aw seed] 0]):=by
 refine zO Tryz.func97 6<|zP 2 [{},{}] [.aa [4,3,2,0,1] []] []<|zR (zV [yR [AV.ptr [ai h] 0,AV.ptr [aw seed] 0]])
def kN (seed:UInt64) (h i:Nat):List UInt64:=(List.range (2^(h-i))).map (fU seed i)
theorem pZ (seed:UInt64) (h i:Nat):(kN seed h i).length=2^(h-i):=by simp [kN]
theorem p7 (seed:UInt64) (h i k:Nat) (hk:k<2^(h-i)):(kN seed h i).getD k 0=fU seed i k:=by simp [kN,hk]
def xI (yv:Value) (seed:UInt64) (h:Nat) (fq:Nat) (l:List UInt64):AS :=
 ⟨[(0,.val yv),(1,.ptr [ai (h:Int)] 0),(2,.ptr [aw seed] 0),(4,.ref 11),(6,ai (fq:Int))],[(11,⟨1,true,false,ah l⟩)]⟩
theorem Ky (yv:Value) (seed:UInt64) (h:Nat) (hh:h≤4):bf Tryz.prog 63 (Code.seq (iq (dw Tryz.f142)) (Code.seq (iq (dL (dw Tryz.f142))) (Code.seq (iq (dL (dL (dw Tryz.f142)))) .skip))) (fun e s'=>e= .normal∧bS s' (xI yv seed h 0 (kN seed h 0))) ⟨kX 0 [.val yv,.ptr [ai (h:Int)] 0,.ptr [aw seed] 0],[]⟩:=by
 have hl:=pZ seed h 0
 have gN:∀k:Nat,k<2^h->(kN seed h 0).getD k 0=combine k (bG seed k 18):=fun k hk=>p7 seed h 0 k hk
 rw [Nat.sub_zero] at hl
 have hp:2^h≤16:=Nat.pow_le_pow_right (by decide) hh
 have Cn:IntKind.i64.wrap (1*2^min ((h:Nat):Int).toNat IntKind.i64.bits)=((2^h:Nat):Int):=by
  rcases (aj:h=0∨h=1∨h=2∨h=3∨h=4) with rfl|rfl|rfl|rfl|rfl<;>decide +kernel
 generalize kN seed h 0=L at *
 generalize 2^h=m at *
 refine zP 1 [yH [(1,yV (ai ↑m)),(2,{av:=some (AV.arr (ah (List.replicate m 0))),k:=m,m:=m})]] [.aa [4,0,1,2] [11]] ([yB (ai (IntKind.i64.wrap ((1:Int)*(2:Int)^min (↑h:Int).toNat IntKind.i64.bits))=ai ↑m) (congrArg (fun n=>AV.val (.int .i64 n)) Cn),yO ((0:Int)≤(↑h:Int)),yB (List.replicate m (cQ)=ah (List.replicate m 0)) (tz _)]++yM 2 (yR (↑m:Int))++ [yO (m≤m),yO (8*m≤281474976710656),yB (m≤maxLen) (by unfold maxLen;omega)])<|zS<|zQ 1 [yH [(1,{k:=m})]] [yB ((ah (List.replicate m 0)).length=m) (by simp only [aC,List.length_replicate])]<|zB 0 (zL (fun (k:Nat)=>(⟨[(13,ai ↑m),(4,AV.ref 11),(0,AV.val yv),(1,AV.ptr [ai ↑h] 0),(2,AV.ptr [aw seed] 0),(14,ai k)],[(11,⟨1,true,false,ah (cT m L k)⟩)]⟩:AS)) (fun k=>(k≤m)) (fun k=>(m-k)) (0) ?_ (zW [.aa [13,4,0,1,2,14] [11]]) ?_)
 ·omega
 intro k hk
 have hf:=kt hl hk
 refine zq<|zS (zD 15 ((↑k:Int)<(↑m:Int)) (fun g=>?_) (fun g=>?_))
 ·have e1:=l7 hl (aj:k<m)
  have e2:=gN k aj
  refine a_<|zS<|zB 1<|zq<|zX (yH [(4,yV (aw (combine (↑k:Int) (bG seed (↑k:Int) 18)))),(5,{k:=k}),(6,yV (AV.arr (ah ((cT m L k).set k (combine (↑k:Int) (bG seed (↑k:Int) 18))))))]) [yI (Ad seed ((↑k:Int))),yR (↑k:Int),yB (k<(ah (cT m L k)).length) (by simp only [aC];omega),yB ((ah (cT m L k)).set k (aw (combine (↑k:Int) (bG seed (↑k:Int) 18)))=ah ((cT m L k).set k (combine (↑k:Int) (bG seed (↑k:Int) 18)))) (kx _ _ _),yB (k+1≤(ah (cT m L k)).length) (by simp only [aC];omega)]<|aL<|aq<|zX (yH [(0,yV (ai ((↑k:Int)+1)))]) [yN ((↑k:Int)+1)] (aK (k+1) aj aj (eQ [.aa [13,4,0,1,2,14] [11]] [] [11] [yB (ah ((cT m L k).set k (combine (↑k:Int) (bG seed (↑k:Int) 18)))=ah (cT m L (k+1))) (congrArg ah (by rw [←e2];exact e1))]))
 ·have e:k=m:=aj
  subst e
  have e1:=kQ hl
  rw [e1]
  refine zE 0<|ba<|aS<|br<|aq<|zq<|zK ?_
  exact ⟨rfl,bS.of [.aa [0,1,2,4,6] [11]] (s1:=xI yv seed h 0 L) bk rfl⟩
theorem HN (yv:Value) (seed:UInt64) (h fq:Nat) (hh:h≤4) (RJ:fq<h):bf Tryz.prog 63 (dL (fz (fz (dL (dL (dL (dw Tryz.f142))))))) (fun e s'=>e= .normal∧bS s' (xI yv seed h (fq+1) (kN seed h (fq+1)))) (xI yv seed h fq (kN seed h fq)):=by
 have hl:=pZ seed h fq
 have Cq:=pZ seed h (fq+1)
 have em:2^(h-fq)=2*2^(h-(fq+1)):=by rw [show h-fq=h-(fq+1)+1 by omega,Nat.pow_succ,Nat.mul_comm]
 have hp:2^(h-(fq+1))≤16:=Nat.le_trans (Nat.pow_le_pow_right (by decide) (by omega:h-(fq+1)≤4)) (by decide)
 have gN:∀k:Nat,k<2^(h-(fq+1))->(kN seed h (fq+1)).getD k 0=gR ((fq+1:Nat):Int) ((kN seed h fq).getD (2*k) 0) ((kN seed h fq).getD (2*k+1) 0):=fun k hk=>by
  rw [p7 seed h (fq+1) k hk,p7 seed h fq (2*k) aj,p7 seed h fq (2*k+1) aj];rfl
 generalize kN seed h fq=L at *
 generalize kN seed h (fq+1)=L2 at *
 rw [em] at hl
 clear em
 generalize 2^(h-(fq+1))=m at *
 have hq:IntKind.i64.wrap ((L.length:Int).tdiv 2)=(m:Int):=by
  rw [hl,Int.tdiv_eq_ediv_of_nonneg aj,fc aj aj];omega
 show bf _ _ _ _ (AS.mk [(0,.val yv),(1,.ptr [ai (h:Int)] 0),(2,.ptr [aw seed] 0),(4,.ref 11),(6,ai (fq:Int))] [(11,Row.mk 1 true false (ah L))])
 refine zS<|zB 3<|zP 1 [yH [(1,{k:=L.length}),(2,yV (ai ↑m)),(3,{av:=some (AV.arr (ah (List.replicate m 0))),k:=m,m:=m})]] [.aa [7,0,1,2,4,6] [38,11]] ([yB ((ah L).length=L.length) (aC _),yB (ai (IntKind.i64.wrap ((↑L.length:Int).tdiv (2:Int)))=ai ↑m) (congrArg (fun n=>AV.val (.int .i64 n)) hq),yO ((2:Int)≠(0:Int)),yB (List.replicate m (cQ)=ah (List.replicate m 0)) (tz _)]++yM 2 (yR (↑m:Int))++ [yO (m≤m),yO (8*m≤281474976710656),yB (m≤maxLen) (by unfold maxLen;omega)])<|zS<|zQ 1 [yH [(1,{k:=m})]] [yB ((ah (List.replicate m 0)).length=m) (by simp only [aC,List.length_replicate])]<|zB 4 (zL (fun (k:Nat)=>(⟨[(40,ai ↑m),(7,AV.ref 38),(0,AV.val yv),(1,AV.ptr [ai ↑h] 0),(2,AV.ptr [aw seed] 0),(4,AV.ref 11),(6,ai ↑fq),(41,ai k)],[(11,⟨1,true,false,ah L⟩),(38,⟨1,true,false,ah (cT m L2 k)⟩)]⟩:AS)) (fun k=>(k≤m)) (fun k=>(m-k)) (0) ?_ (zW [.aa [40,7,0,1,2,4,6,41] [11,38]]) ?_)
 ·omega
 intro k hk
 have hf:=kt Cq hk
 refine zq<|zS (zD 42 ((↑k:Int)<(↑m:Int)) (fun g=>?_) (fun g=>?_))
 ·have e1:=l7 Cq (aj:k<m)
  have e2:=gN k aj
  have w1:IntKind.i64.wrap ((fq:Int)+1)=((fq+1:Nat):Int):=by rw [fc aj aj];omega
  have w2:IntKind.i64.wrap (2*(k:Int))=((2*k:Nat):Int):=by rw [fc aj aj];omega
  have w3:IntKind.i64.wrap (((2*k:Nat):Int)+1)=((2*k+1:Nat):Int):=by rw [fc aj aj];omega
  refine a_<|zS<|zB 5<|zq<|zX ({hs:=[(3,yV (ai (↑(fq+1):Int))),(6,yV (ai (↑(2*k):Int))),(7,{k:=2*k}),(8,yV (aw (L.getD (2*k) 0))),(11,yV (ai (↑(2*k):Int))),(12,yV (ai (↑(2*k+1):Int))),(13,{k:=2*k+1}),(14,yV (aw (L.getD (2*k+1) 0))),(15,yV (aw (gR (↑(fq+1):Int) (L.getD (2*k) 0) (L.getD (2*k+1) 0)))),(16,{k:=k}),(17,yV (AV.arr (ah ((cT m L2 k).set k (gR (↑(fq+1):Int) (L.getD (2*k) 0) (L.getD (2*k+1) 0))))))],T:=16}) [yB (ai (IntKind.i64.wrap ((↑fq:Int)+1))=ai (↑(fq+1):Int)) (dK aj aj),yB (ai (IntKind.i64.wrap ((2:Int)*(↑k:Int)))=ai (↑(2*k):Int)) (dK aj aj),yR (↑(2*k):Int),yB (2*k<(ah L).length) (by simp only [aC];omega),yB ((ah L)[2*k]?=some (aw (L.getD (2*k) 0))) (eE aj),yB (ai (IntKind.i64.wrap ((2:Int)*(↑k:Int)))=ai (↑(2*k):Int)) (dK aj aj),yB (ai (IntKind.i64.wrap ((↑(2*k):Int)+1))=ai (↑(2*k+1):Int)) (dK aj aj),yR (↑(2*k+1):Int),yB (2*k+1<(ah L).length) (by simp only [aC];omega),yB ((ah L)[2*k+1]?=some (aw (L.getD (2*k+1) 0))) (eE aj),yI (pa (↑(fq+1):Int) (L.getD (2*k) 0) (L.getD (2*k+1) 0)),yR (↑k:Int),yB (k<(ah (cT m L2 k)).length) (by simp only [aC];omega),yB ((ah (cT m L2 k)).set k (aw (gR (↑(fq+1):Int) (L.getD (2*k) 0) (L.getD (2*k+1) 0)))=ah ((cT m L2 k).set k (gR (↑(fq+1):Int) (L.getD (2*k) 0) (L.getD (2*k+1) 0)))) (kx _ _ _),yB (k+1≤(ah (cT m L2 k)).length) (by simp only [aC];omega)]<|aL<|aq<|zX (yH [(0,yV (ai ((↑k:Int)+1)))]) [yN ((↑k:Int)+1)] (aK (k+1) aj aj (eQ [.aa [40,7,0,1,2,4,6,41] [11,38]] [] [38] [yB (ah ((cT m L2 k).set k (gR (↑(fq+1):Int) (L.getD (2*k) 0) (L.getD (2*k+1) 0)))=ah (cT m L2 (k+1))) (congrArg ah (by rw [←e2];exact e1))]))
 ·have e:k=m:=aj
  subst e
  have e1:=kQ Cq
  rw [e1]
  refine zE 4<|ba<|aS<|br<|aq<|zX {} []<|aL<|aq<|zX (yH [(1,yV (ai ((↑fq:Int)+1)))]) [yN ((↑fq:Int)+1)] ?_
  exact ⟨rfl,bS.of [.vp 38 11,.aa [0,1,2,4,6] [11]] (s1:=AS.mk [(0,.val yv),(1,.ptr [ai (h:Int)] 0),(2,.ptr [aw seed] 0),(4,.ref 11),(6,ai ((fq:Int)+1))] [(11,Row.mk 1 true false (ah L2))]) bk (by unfold xI;rw [show ((fq+1:Nat):Int)=(fq:Int)+1 by omega])⟩
theorem EY {P:Program} {x y z B:Code} {Q Q':Exit->Act->World->Prop} {K:Act->World->Prop} {a:Act} {w:World} (h:BF P (.seq x (.seq y (.seq z .skip))) Q a w) (hQ:∀e a w,Q e a w->e= .normal∧K a w) (hB:∀a w,K a w->B.wp P Q' a w):(Code.seq x (.seq y (.seq z B))).wp P Q' a w:=by
 refine wp_seq (wp_mono (kA x _ _ _ h) fun e a w he=>?_)
 cases e with
 | normal =>
  refine wp_seq (wp_mono (kA y _ _ _ he) fun e a w he=>?_)
  cases e with
  | normal =>
   refine wp_seq (wp_mono (kA z _ _ _ he) fun e a w he=>?_)
   cases e with
   | normal=>exact hB _ _ (hQ _ _ _ he).2
   | _=>cases (hQ _ _ _ he).1
  | _=>cases (hQ _ _ _ he).1
 | _=>cases (hQ _ _ _ he).1
def lx:Code->List Oper
 | .region _ ops _=>ops.toList
 | _=>[]
theorem Kz (yv:Value) (seed:UInt64) (h fq:Nat) (l:List UInt64):j6 Tryz.prog 63 (lx (iq (iq (fz (fz (dL (dL (dL (dw Tryz.f142))))))))) [] ((lx (iq (iq (fz (fz (dL (dL (dL (dw Tryz.f142))))))))).take 3) 0 (xI yv seed h fq l) =
  some (AS.mk [(26,.ref 11),(25,ai (fq:Int)),(24,.val yv),(0,.val yv),(1,.ptr [ai (h:Int)] 0),(2,.ptr [aw seed] 0),(4,.ref 11),(6,ai (fq:Int))] [(11,Row.mk 1 true false (ah l))],[]):=by kernel_rfl
theorem HK (yv:Value) (seed:UInt64) (h fq:Nat) (l:List UInt64):j6 Tryz.prog 63 (lx (iq (iq (fz (fz (dL (dL (dL (dw Tryz.f142))))))))) [] ((lx (iq (iq (fz (fz (dL (dL (dL (dw Tryz.f142))))))))).drop 4) 4 (lr (AS.mk [(26,.ref 11),(25,ai (fq:Int)),(24,.val yv),(0,.val yv),(1,.ptr [ai (h:Int)] 0),(2,.ptr [aw seed] 0),(4,.ref 11),(6,ai (fq:Int))] [(11,Row.mk 1 true false (ah l))]) 27 (ao true)) =
  some (AS.mk [(32,ao (decide ((fq:Int)<(h:Int)))),(31,ao (decide ((fq:Int)<(h:Int)))),(30,ai (h:Int)),(29,ai (fq:Int)),(28,ao true),(27,ao true),(26,.ref 11),(25,ai (fq:Int)),(24,.val yv),(0,.val yv),(1,.ptr [ai (h:Int)] 0),(2,.ptr [aw seed] 0),(4,.ref 11),(6,ai (fq:Int))] [(11,Row.mk 1 true false (ah l))],[true=true,true=true,true=true,true=true]):=by kernel_rfl
theorem HM (yv:Value) (seed:UInt64) (h fq:Nat) (l:List UInt64):j6 Tryz.prog 63 (lx (iq (iq (fz (fz (dL (dL (dL (dw Tryz.f142))))))))) [(5,{g:=false}),(6,{g:=false}),(7,{g:=false}),(8,{b:=false})] ((lx (iq (iq (fz (fz (dL (dL (dL (dw Tryz.f142))))))))).drop 4) 4 (lr (AS.mk [(26,.ref 11),(25,ai (fq:Int)),(24,.val yv),(0,.val yv),(1,.ptr [ai (h:Int)] 0),(2,.ptr [aw seed] 0),(4,.ref 11),(6,ai (fq:Int))] [(11,Row.mk 1 true false (ah l))]) 27 (ao false)) =
  some (AS.mk [(32,ao false),(31,.val (.tuple #[])),(30,.val (.tuple #[])),(29,.val (.tuple #[])),(28,ao false),(27,ao false),(26,.ref 11),(25,ai (fq:Int)),(24,.val yv),(0,.val yv),(1,.ptr [ai (h:Int)] 0),(2,.ptr [aw seed] 0),(4,.ref 11),(6,ai (fq:Int))] [(11,Row.mk 1 true false (ah l))],[false=false,false=false,false=false,false=false]):=by kernel_rfl
theorem It.val {n:Nat} {J:(Nat->Prop)->(Nat->Prop)->World->Prop} {s:AS} {a:Act} {w:World} {x:Operand} {v:Value} (h:It n J s a w) (hx:bq s x= .val v):a.eval x=v:=by
 obtain ⟨wb,Z,φ,ms,h1,-⟩:=h
 exact bK (hx ▸ h1.bq x)
theorem An (seed:UInt64) (h:Nat) (hh:h≤4):w6 Tryz.prog 142 [.ptr [ai (h:Int)] 0,.ptr [aw seed] 0] (fun i=>[ai (i:Int),.sl 1 (ah (kN seed h i))]) (h+1):=by
 refine w6.pU (n:=63) Tryz.func142 (c:=(dw Tryz.f142)) bk bk bk (by simp) ?_
 intro l J X hJ hX hy a w hit
 have eb:(dw Tryz.f142)= .seq (iq (dw Tryz.f142)) (.seq (iq (dL (dw Tryz.f142))) (.seq (iq (dL (dL (dw Tryz.f142)))) (dL (dL (dL (dw Tryz.f142)))))):=by kernel_rfl
 have eB:dL (dL (dL (dw Tryz.f142)))= .block 2 (.loop (.seq (.seq (.region 7 (lx (iq (iq (fz (fz (dL (dL (dL (dw Tryz.f142))))))))).toArray false) (.cond (.tmp 32) .skip (.exit 2))) (dL (fz (fz (dL (dL (dL (dw Tryz.f142))))))))):=by kernel_rfl
 have Rw:=It.SM hit (hJ 0) (Ky (.func (.yield l) #[] #[]) seed h hh)
 rw [eb]
 refine EY (K:=It 63 (J 0) (xI (.func (.yield l) #[] #[]) seed h 0 (kN seed h 0))) Rw (fun e a w ⟨s',⟨he,hw⟩,hi⟩=>⟨he,hi.oQ (hJ 0) hw⟩) fun a w Oh=>?_
 rw [eB]
 refine wp_block (Eb (fun k a w=>∃fq,fq≤h∧k=h-fq∧It 63 (J fq) (xI (.func (.yield l) #[] #[]) seed h fq (kN seed h fq)) a w) h ⟨0,aj,aj,Oh⟩ ?_)
 rintro k a w ⟨fq,RJ,rfl,hit⟩
 refine wp_seq (wp_seq ?_)
 refine GG (d:=27) (l1:=(lx (iq (iq (fz (fz (dL (dL (dL (dw Tryz.f142))))))))).take 3) (o:=((lx (iq (iq (fz (fz (dL (dL (dL (dw Tryz.f142))))))))).drop 3).headD default) (l2:=(lx (iq (iq (fz (fz (dL (dL (dL (dw Tryz.f142))))))))).drop 4) (y:=.tmp 24) (xs:= #[.tmp 25,.tmp 26]) (ts:= #[3,27]) bk bk bk bk (by rintro ⟨_,_,he,_⟩;rcases he with he|he<;>cases he) bk bk<|hit.ops (hJ fq) (Kz _ seed h fq _) trivial fun a1 w1 QG=>⟨l,QG.val (x:=.tmp 24) bk,?_⟩
 refine It.yield (d:=27) (xs:=[.tmp 25,.tmp 26]) hJ hX (by decide) hy QG aj (s1:=AS.mk [(26,.sl 1 (ah (kN seed h fq))),(25,ai (fq:Int)),(24,.val (.func (.yield l) #[] #[])),(0,.val (.func (.yield l) #[] #[])),(1,.ptr [ai (h:Int)] 0),(2,.ptr [aw seed] 0),(4,.sl 1 (ah (kN seed h fq))),(6,ai (fq:Int))] []) bk bk bk _ (fun w2 dM=>?_) (fun w2 dM=>?_)
 ·refine dM.ops (hJ (fq+1)) (HK _ seed h fq _) ⟨rfl,rfl,rfl,rfl,trivial⟩ fun a3 w3 Og=>?_
  have hv:=Og.val (x:=.tmp 32) (v:=.bool (decide ((fq:Int)<(h:Int)))) bk
  refine wp_cond_split hv (fun ht=>?_) (fun hf=>?_)
  ·have dj:fq<h:=by have:=of_decide_eq_true ht;omega
   refine wp_skip ?_
   have UG:=Og.oQ (hJ (fq+1)) (s':=xI (.func (.yield l) #[] #[]) seed h fq (kN seed h fq)) (bS.of [.aa [0,1,2,4,6] [11]] bk rfl)
   refine wp_mono (kA _ _ _ _ (It.SM UG (hJ (fq+1)) (HN _ seed h fq hh dj))) fun e a5 w5 ⟨s',⟨he,hw⟩,UF⟩=>?_
   subst he
   exact ⟨h-(fq+1),aj,fq+1,aj,rfl,UF.oQ (hJ (fq+1)) hw⟩
  ·have uI:fq=h:=by have:=of_decide_eq_false hf;omega
   subst uI
   refine wp_exit ?_
   exact ⟨.inl rfl,_,.inl Og⟩
 ·refine dM.ops hX (HM _ seed h fq _) ⟨rfl,rfl,rfl,rfl,trivial⟩ fun a3 w3 Og=>?_
  have hv:=Og.val (x:=.tmp 32) (v:=.bool false) bk
  refine wp_cond_false hv (wp_exit ?_)
  exact ⟨.inl rfl,_,.inr Og⟩
end Go.Proofs.YtjgbhhnghedgdaaGreatDoor
