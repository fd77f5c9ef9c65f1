import Derived.Test.YtjgbhhnghedgdaaGreatDoorZaCb3
set_option linter.all false
namespace Go.Proofs.YtjgbhhnghedgdaaGreatDoor
open Go.RowKit
set_option maxRecDepth 100000
set_option maxHeartbeats 4000000
def O6 (h:Int):Int:=if bA h then 9 else 0
def JY (h:Int):Int:=if bA h then 0 else h
def JX (seed:UInt64) (h:Int):UInt64:=if bA h then 0 else fS seed h.toNat 0
theorem vz (seed:UInt64) (h:Int):bK Tryz.prog 85 [aw seed,ai h] (.bq [.agg [ai (JY h),aw (JX seed h)],ai (O6 h)]):=by
 by_cases hb:bA h
 ·have e1:O6 h=9:=if_pos hb
  have e2:JY h=0:=if_pos hb
  have e3:JX seed h=0:=if_pos hb
  refine zO Tryz.func85 15<|zq<|zS<|zP 1 [yH [(1,yV (ao (!decide (bA h))))]] [.ae [8,5,4,0,1] [4]] [yI (b_ h)]<|du 8 (!!decide (bA h)) (by simp_all)<|bf.jW 1 [{}] [.ae [5,8,4,0,1] [4]] bh (s':=AS.mk [(5,ai 9),(8,ao (!!decide (bA h))),(4,AV.addr 4 0),(0,aw seed),(1,ai h)] [(4,Row.mk 1 false true [ai 0,cO])]) (C:=[2≤2]) bh ⟨ah,trivial⟩<|dk (zV [yJ 0 (JY h) (by rw [e2]),yK 0 (wv (JX seed h)) (by rw [e3];rfl),yJ 9 (O6 h) (by rw [e1])])
 ·have e1:O6 h=0:=if_neg hb
  have e2:JY h=h:=if_neg hb
  have e3:JX seed h=fS seed h.toNat 0:=if_neg hb
  have rj:0≤h∧h≤4:=by unfold bA at hb;omega
  rw [e1,e2,e3]
  obtain ⟨k,rfl⟩:=Int.eq_ofNat_of_zero_le rj.1
  have hn:=rU seed k 0 ah (Nat.two_pow_pos _)
  rw [Int.toNat_natCast]
  generalize fS seed k 0=r at *
  refine zO Tryz.func85 15<|zq<|zS<|zP 1 [yH [(1,yV (ao (!decide (bA (↑k:Int)))))]] [.ae [8,5,4,0,1] [4]] [yI (b_ ((↑k:Int)))]<|bj 8 (!!decide (bA (↑k:Int))) (by simp_all)<|a_<|zP 1 [yH [(3,yV (aw r))]] [.ae [5,8,4,0,1] [4]] [yI hn,yL 2 2]<|zR (bV)
theorem iA (leaf:Int) (h:Nat) (hh:h≤4):bK Tryz.prog 95 [ai leaf,ai h] (ao (decide (leaf<0∨((2^h:Nat):Int)≤leaf))):=by
 rcases (ah:h=0∨h=1∨h=2∨h=3∨h=4) with rfl|rfl|rfl|rfl|rfl
 ·by_cases h1:leaf<0
  ·refine zO Tryz.func95 13<|zP 2 [{},{}] [.ae [4,0,1] []] (yM 5 (yT (leaf<0)))<|zR (zV [yB (Value.bool true=Value.bool (decide (leaf<0∨(↑((2:Nat)^0):Int)≤leaf))) (by simp [h1])])
  ·refine zO Tryz.func95 13<|zP 2 [{},yH ([(7,{b:=false})]++yg [3,4,5,6])] [.ae [4,0,1] []] (yM 3 (yF (leaf<0))++ [yO ((0:Int)≤(↑(0:Nat):Int))]++yM 2 (yF (leaf<0)))<|zR (zV [yB (Value.bool (decide (leaf≥IntKind.i64.wrap ((1:Int)*(2:Int)^min (↑(0:Nat):Int).toNat IntKind.i64.bits)))=Value.bool (decide (leaf<0∨(↑((2:Nat)^0):Int)≤leaf))) (by simp [h1];rfl)])
 ·by_cases h1:leaf<0
  ·refine zO Tryz.func95 13<|zP 2 [{},{}] [.ae [4,0,1] []] (yM 5 (yT (leaf<0)))<|zR (zV [yB (Value.bool true=Value.bool (decide (leaf<0∨(↑((2:Nat)^1):Int)≤leaf))) (by simp [h1])])
  ·refine zO Tryz.func95 13<|zP 2 [{},yH ([(7,{b:=false})]++yg [3,4,5,6])] [.ae [4,0,1] []] (yM 3 (yF (leaf<0))++ [yO ((0:Int)≤(↑(1:Nat):Int))]++yM 2 (yF (leaf<0)))<|zR (zV [yB (Value.bool (decide (leaf≥IntKind.i64.wrap ((1:Int)*(2:Int)^min (↑(1:Nat):Int).toNat IntKind.i64.bits)))=Value.bool (decide (leaf<0∨(↑((2:Nat)^1):Int)≤leaf))) (by simp [h1];rfl)])
 ·by_cases h1:leaf<0
  ·refine zO Tryz.func95 13<|zP 2 [{},{}] [.ae [4,0,1] []] (yM 5 (yT (leaf<0)))<|zR (zV [yB (Value.bool true=Value.bool (decide (leaf<0∨(↑((2:Nat)^2):Int)≤leaf))) (by simp [h1])])
  ·refine zO Tryz.func95 13<|zP 2 [{},yH ([(7,{b:=false})]++yg [3,4,5,6])] [.ae [4,0,1] []] (yM 3 (yF (leaf<0))++ [yO ((0:Int)≤(↑(2:Nat):Int))]++yM 2 (yF (leaf<0)))<|zR (zV [yB (Value.bool (decide (leaf≥IntKind.i64.wrap ((1:Int)*(2:Int)^min (↑(2:Nat):Int).toNat IntKind.i64.bits)))=Value.bool (decide (leaf<0∨(↑((2:Nat)^2):Int)≤leaf))) (by simp [h1];rfl)])
 ·by_cases h1:leaf<0
  ·refine zO Tryz.func95 13<|zP 2 [{},{}] [.ae [4,0,1] []] (yM 5 (yT (leaf<0)))<|zR (zV [yB (Value.bool true=Value.bool (decide (leaf<0∨(↑((2:Nat)^3):Int)≤leaf))) (by simp [h1])])
  ·refine zO Tryz.func95 13<|zP 2 [{},yH ([(7,{b:=false})]++yg [3,4,5,6])] [.ae [4,0,1] []] (yM 3 (yF (leaf<0))++ [yO ((0:Int)≤(↑(3:Nat):Int))]++yM 2 (yF (leaf<0)))<|zR (zV [yB (Value.bool (decide (leaf≥IntKind.i64.wrap ((1:Int)*(2:Int)^min (↑(3:Nat):Int).toNat IntKind.i64.bits)))=Value.bool (decide (leaf<0∨(↑((2:Nat)^3):Int)≤leaf))) (by simp [h1];rfl)])
 ·by_cases h1:leaf<0
  ·refine zO Tryz.func95 13<|zP 2 [{},{}] [.ae [4,0,1] []] (yM 5 (yT (leaf<0)))<|zR (zV [yB (Value.bool true=Value.bool (decide (leaf<0∨(↑((2:Nat)^4):Int)≤leaf))) (by simp [h1])])
  ·refine zO Tryz.func95 13<|zP 2 [{},yH ([(7,{b:=false})]++yg [3,4,5,6])] [.ae [4,0,1] []] (yM 3 (yF (leaf<0))++ [yO ((0:Int)≤(↑(4:Nat):Int))]++yM 2 (yF (leaf<0)))<|zR (zV [yB (Value.bool (decide (leaf≥IntKind.i64.wrap ((1:Int)*(2:Int)^min (↑(4:Nat):Int).toNat IntKind.i64.bits)))=Value.bool (decide (leaf<0∨(↑((2:Nat)^4):Int)≤leaf))) (by simp [h1];rfl)])
theorem KO (seed:UInt64) (h:Int):bK Tryz.prog 41 [aw seed,ai h] (.agg [ai (JY h),aw (JX seed h)]):=by
 refine zO Tryz.func41 14<|zP 3 [{},yH [(2,yV (AV.bq [AV.agg [ai (JY h),aw (JX seed h)],ai (O6 h)]))],{}] [.ae [5,4,0,1] [4,5]] [yI (vz seed h),yL 2 2,yL 2 2]<|zR (zV [yR (Value.int .i64 (JY h)),yR (Value.int .u64 (wv (JX seed h)))])
def dK (k:Nat):Mem:=⟨[109,u8 (48+(k:Int))],4,JX (300+u64 k) 4,0⟩
theorem Ck (i:Int):bK Tryz.prog 18 [ai i] (.agg (aH (dK (fG i 10)))):=by
 have hm:=sY i (n:=10) ah
 have p2:JY 4=4:=by decide
 refine zO Tryz.func18 16<|zP 2 [{},{hs:=[(1,yV (ai (↑(fG i (10:Int)):Int))),(2,yV (ai ((48:Int)+(↑(fG i (10:Int)):Int)))),(3,yV (ab (u8 ((48:Int)+(↑(fG i (10:Int)):Int))))),(4,yV (AV.arr (ag [u8 ((48:Int)+(↑(fG i (10:Int)):Int))]))),(5,yV (AV.val (Value.string (ByteArray.mk #[u8 ((48:Int)+(↑(fG i (10:Int)):Int))])))),(8,yV (ai (↑(fG i (10:Int)):Int))),(9,yV (aw (u64 (↑(fG i (10:Int)):Int)))),(10,yV (aw (300+u64 (↑(fG i (10:Int)):Int)))),(11,yV (AV.agg [ai (JY (4:Int)),aw (JX (300+u64 (↑(fG i (10:Int)):Int)) (4:Int))]))],T:=12}] [.ae [2,0] [2]] [yI (sX i ((10:Int)) ah ah),yN ((48:Int)+(↑(fG i (10:Int)):Int)),yI (iZ ((48:Int)+(↑(fG i (10:Int)):Int))),yR [ab (u8 ((48:Int)+(↑(fG i (10:Int)):Int)))],yR (ag [u8 ((48:Int)+(↑(fG i (10:Int)):Int))]),yB ((ByteArray.mk #[109]).size+(ByteArray.mk #[u8 ((48:Int)+(↑(fG i (10:Int)):Int))]).size≤9223372036854775807) (Nat.le_of_ble_eq_true rfl),yI (sX i ((10:Int)) ah ah),yI (a6 (↑(fG i (10:Int)):Int)),yR (aw (300+u64 (↑(fG i (10:Int)):Int))),yI (KO (300+u64 (↑(fG i (10:Int)):Int)) ((4:Int))),yL 4 4]<|zR (zV [yR (Value.string (ByteArray.mk (dK (fG i (10:Int))).name.toArray)),yR (Value.int .i64 (JY (4:Int))),yR (Value.int .u64 (wv (dK (fG i (10:Int))).r)),yR (Value.int .u64 0)])
theorem Pb {i:Nat} (h:i<10):fG (i:Int) 10=i:=by
 unfold fG
 rw [Int.emod_eq_of_lt ah ah,Int.emod_eq_of_lt ah ah,Int.toNat_natCast]
theorem gr (i:Nat) (h:i<10):bK Tryz.prog 18 [ai i] (.agg (aH (dK i))):=by
 have:=Ck i
 rwa [Pb h] at this
def SD (g:gK):List AV:=[ai g.aB,aw g.head,ai g.bt,.own 4 (af aH g.al),.own 7 (af bc g.aK)]
theorem hY (h:Int) (r:UInt64):bK Tryz.prog 43 [.agg [ai h,aw r]] (.bq [.own 1 (ag (di h r)),ai (eU h)]):=by
 have hw:(words [r]).length=8:=by rw [dV];rfl
 by_cases h1:bA h
 ·have e:eU h=9:=by rw [eU,if_pos h1]
  have ed:di h r= []:=by rw [di,if_pos h1]
  refine zO Tryz.func43 16<|zq<|zS<|zQ 1 [yH [(2,yV (ao (decide (bA h))))]] [yI (hU h)]<|gT 6 (bA h)<|zq<|dk (zV [yB (ag (di h r)= []) (by rw [ed];rfl),yJ 9 (eU h) (by rw [e])])
 ·have e:eU h=0:=by rw [eU,if_neg h1]
  have ed:di h r=u8 h::words [r]:=by rw [di,if_neg h1]
  refine zO Tryz.func43 16<|zq<|zS<|zQ 1 [yH [(2,yV (ao (decide (bA h))))]] [yI (hU h)]<|dp 6 (bA h)<|a_<|zS<|Qz 8 [3] [(2,yV (ab (u8 h))),(3,yV (AV.arr (ag [u8 h]))),(6,yV (AV.arr (aj [r]))),(7,yV (AV.own 1 (ag (words [r])))),(8,yV (AV.arr (ag ([u8 h]++words [r]))))] [yI (iZ h),yR [ab (u8 h)],yI (aR [u8 h]),yR [aw r],yI (lK [r] (by simp only [List.length_cons,List.length_nil];omega)),yI (aR (words [r])),yR (ag ([u8 h]++words [r])),yL 9 140737488355328]<|ak<|bf.sv [.ae [3,2,6,1,0] [15,1]] bh<|zR (zV [yB (ag ([u8 h]++words [r])=ag (di h r)) (by rw [ed];rfl),yJ 0 (eU h) (by rw [e])])
theorem gD (h:Int) (r:UInt64):bK Tryz.prog 47 [.agg [ai h,aw r]] (.bq [.own 1 (ag (di h r)),ai (eU h)]):=by
 have hw:(words [r]).length=8:=by rw [dV];rfl
 by_cases h1:bA h
 ·have e:eU h=9:=by rw [eU,if_pos h1]
  have ed:di h r= []:=by rw [di,if_pos h1]
  refine zO Tryz.func47 17<|zq<|zS<|zP 1 [yH [(2,yV (ao (!decide (bA h))))]] [.ae [7,3,2,1,0] [1]] [yI (b_ h)]<|du 7 (!!decide (bA h)) (by simp_all)<|zq<|dk (zV [yB (ag (di h r)= []) (by rw [ed];rfl),yJ 9 (eU h) (by rw [e])])
 ·have e:eU h=0:=by rw [eU,if_neg h1]
  have ed:di h r=u8 h::words [r]:=by rw [di,if_neg h1]
  refine zO Tryz.func47 17<|zq<|zS<|zP 1 [yH [(2,yV (ao (!decide (bA h))))]] [.ae [7,3,2,1,0] [1]] [yI (b_ h)]<|bj 7 (!!decide (bA h)) (by simp_all)<|a_<|zS<|Qz 8 [3] [(2,yV (ab (u8 h))),(3,yV (AV.arr (ag [u8 h]))),(6,yV (AV.arr (aj [r]))),(7,yV (AV.own 1 (ag (words [r])))),(8,yV (AV.arr (ag ([u8 h]++words [r]))))] [yI (iZ h),yR [ab (u8 h)],yI (aR [u8 h]),yR [aw r],yI (dB [r] (by simp only [List.length_cons,List.length_nil];omega)),yI (aR (words [r])),yR (ag ([u8 h]++words [r])),yL 9 140737488355328]<|ak<|bf.sv [.ae [3,2,7,1,0] [16,1]] bh<|zR (zV [yB (ag ([u8 h]++words [r])=ag (di h r)) (by rw [ed];rfl),yJ 0 (eU h) (by rw [e])])
structure gk where
 name:List UInt8
 leaf:Int
 ct:List UInt64
 path:List UInt64
def a8 (v:gk):List AV:=[db v.name,ai v.leaf,.sl 1 (aj v.ct),.sl 1 (aj v.path)]
structure eF where
 aB:Int
 prev:UInt64
 kind:Int
 name:List UInt8
 kh:Int
 kr:UInt64
 bt:Int
 dep:m0
 bR:UInt64
 target:UInt64
 aq:List gk
def aT (e:eF):List AV:=[ai e.aB,aw e.prev,ai e.kind,db e.name,ai e.kh,aw e.kr,ai e.bt,aw e.dep.bR,aw e.dep.peer,.sl 1 (ag e.dep.box),.sl 1 (af ay e.dep.aa),.sl 1 (aj e.dep.au),ai e.dep.need,aw e.dep.target,aw e.bR,aw e.target,.sl 4 (af a8 e.aq)]
theorem ez (x:List UInt8) (hx:x.length≤1000):bK Tryz.prog 42 [db x] (ai (d_ x)):=by
 by_cases c1:x.length<1
 ·have e:=pX (.inl c1)
  refine zO Tryz.func42 14<|zq<|zS<|zP 1 [yH [(1,yV (ai (↑x.length:Int)))]] [.ae [10,2,0] []] ([yR (ai (↑x.length:Int))]++yM 4 (yT ((↑x.length:Int)<1)))<|zT 10<|zq<|dk (zV [yJ 9 (d_ x) (by rw [e])])
 by_cases c3:32<x.length
 ·have e:=pX (.inr c3)
  refine zO Tryz.func42 14<|zq<|zS<|zP 1 [yH ([(1,yV (ai (↑x.length:Int))),(5,{av:=some (ai (↑x.length:Int)),g:=false}),(7,{b:=false})]++yg [4,6])] [.ae [10,2,0] []] ([yR (ai (↑x.length:Int))]++yM 2 (yF ((↑x.length:Int)<1))++ [yR (ai (↑x.length:Int))]++yM 2 (yF ((↑x.length:Int)<1)))<|gT 10 ((↑x.length:Int)>32)<|zq<|dk (zV [yJ 9 (d_ x) (by rw [e])])
 by_cases c2:Lib.validD x=false
 ·have e:=xD ah c2
  refine zO Tryz.func42 14<|zq<|zS<|zP 1 [yH ([(1,yV (ai (↑x.length:Int))),(5,{av:=some (ai (↑x.length:Int)),g:=false}),(7,{b:=false})]++yg [4,6])] [.ae [10,2,0] []] ([yR (ai (↑x.length:Int))]++yM 2 (yF ((↑x.length:Int)<1))++ [yR (ai (↑x.length:Int))]++yM 2 (yF ((↑x.length:Int)<1)))<|dp 10 ((↑x.length:Int)>32)<|a_<|zS<|zP 1 [yH [(1,yV (ao (Lib.validD x))),(2,yV (ao true))]] [.ae [13,10,2,0] []] [yI (kj x ah),yB (ao (!Lib.validD x)=ao true) (by rw [c2];rfl)]<|zT 13<|zq<|dk (zV [yJ 6 (d_ x) (by rw [e])])
 have c4:Lib.validD x=true:=by simpa using c2
 have e:=Ee ah c4
 refine zO Tryz.func42 14<|zq<|zS<|zP 1 [yH ([(1,yV (ai (↑x.length:Int))),(5,{av:=some (ai (↑x.length:Int)),g:=false}),(7,{b:=false})]++yg [4,6])] [.ae [10,2,0] []] ([yR (ai (↑x.length:Int))]++yM 2 (yF ((↑x.length:Int)<1))++ [yR (ai (↑x.length:Int))]++yM 2 (yF ((↑x.length:Int)<1)))<|dp 10 ((↑x.length:Int)>32)<|a_<|zS<|zP 1 [yH [(1,yV (ao (Lib.validD x))),(2,yV (ao false))]] [.ae [13,10,2,0] []] [yI (kj x ah),yB (ao (!Lib.validD x)=ao false) (by rw [c4];rfl)]<|zF 13<|a_<|zq<|zR (zV [yJ 0 (d_ x) (by rw [e])])
def iF (m:Mem):Int:=if d_ m.name≠0 then d_ m.name else if eU m.h≠0 then eU m.h else if m.used≠0 then 18 else 0
def dd (m:Mem):gK:=if iF m=0 then ⟨0,hash 16 (di m.h m.r++m.name),1,[m],[]⟩ else ⟨0,0,0,[],[]⟩
instance:Inhabited gK:=⟨⟨0,0,0,[],[]⟩⟩
theorem nz (h:Int) (r:UInt64):(di h r).length≤9:=by
 unfold di
 split
 ·exact Nat.zero_le _
 ·have:(words [r]).length=8:=by rw [dV];rfl
  rw [List.length_cons];omega
theorem Bq (a b:List UInt8) (h:a.length+b.length≤1000000):bK Tryz.prog 45 [.sl 1 [.sl 1 (ag a),.sl 1 (ag b)]] (.own 1 (ag (a++b))):=by
 have:=Dw [a,b] (by simp [fm];omega) (by simp)
 rw [show [a,b].flatten=a++b by simp] at this
 exact this
theorem IL (m:Mem) (hm:m.name.length≤1000):bK Tryz.prog 19 [.agg (aH m)] (.bq [.agg (SD (dd m)),ai (iF m)]):=by
 have hz:=qI m.name hm
 by_cases h1:d_ m.name=0
 case neg =>
  have e1:iF m=d_ m.name:=if_pos h1
  have e2:dd m=⟨0,0,0,[],[]⟩:=by unfold dd;rw [if_neg ah]
  refine zO Tryz.func19 40<|zq<|zS<|zP 2 [yH [(2,yV (ai (d_ m.name)))],yH [(1,yV (ao true))]] [.ae [12,4,3,2,1,0] [2,1]] [yI (ez m.name hm),yB (ao (d_ m.name != (0:Int))=ao true) (by simp [h1])]<|zT 12<|zP 1 [{}] [.ae [3,12,4,2,1,0] [2,1]] [yL 5 5]<|dk (zV [yJ 0 ((dd m).aB) (by rw [e2]),yK 0 (wv (dd m).head) (by rw [e2];rfl),yJ 0 ((dd m).bt) (by rw [e2]),yB (af aH (dd m).al= []) (by rw [e2];rfl),yB (af bc (dd m).aK= []) (by rw [e2];rfl),yJ (d_ m.name) (iF m) (by rw [e1])])
 by_cases h2:eU m.h=0
 case neg =>
  have e1:iF m=eU m.h:=by unfold iF;rw [if_neg ah,if_pos h2]
  have e2:dd m=⟨0,0,0,[],[]⟩:=by unfold dd;rw [if_neg ah]
  refine zO Tryz.func19 40<|zq<|zS<|zP 2 [yH [(2,yV (ai (d_ m.name)))],yH [(1,yV (ao false))]] [.ae [12,4,3,2,1,0] [2,1]] [yI (ez m.name hm),yB (ao (d_ m.name != (0:Int))=ao false) (by simp [h1])]<|zF 12<|a_<|zP 1 [yH [(2,yV (AV.bq [AV.own 1 (ag (di m.h m.r)),ai (eU m.h)]))]] [.ae [6,5,12,4,3,2,1,0] [1018,2,1]] [yI (hY m.h m.r),yI (aR (di m.h m.r))]<|zS<|zQ 1 [yH [(1,yV (ao true))]] [yB (ao (eU m.h != (0:Int))=ao true) (by simp [h2])]<|zT 22<|zP 1 [{}] [.ae [3,22,6,5,12,4,2,1,0] [2,1018,1]] [yL 5 5]<|dk (zV [yJ 0 ((dd m).aB) (by rw [e2]),yK 0 (wv (dd m).head) (by rw [e2];rfl),yJ 0 ((dd m).bt) (by rw [e2]),yB (af aH (dd m).al= []) (by rw [e2];rfl),yB (af bc (dd m).aK= []) (by rw [e2];rfl),yJ (eU m.h) (iF m) (by rw [e1])])
 by_cases h3:m.used=0
 case neg =>
  have e1:iF m=18:=by unfold iF;rw [if_neg ah,if_neg ah,if_pos h3]
  have e2:dd m=⟨0,0,0,[],[]⟩:=by unfold dd;rw [if_neg ah]
  refine zO Tryz.func19 40<|zq<|zS<|zP 2 [yH [(2,yV (ai (d_ m.name)))],yH [(1,yV (ao false))]] [.ae [12,4,3,2,1,0] [2,1]] [yI (ez m.name hm),yB (ao (d_ m.name != (0:Int))=ao false) (by simp [h1])]<|zF 12<|a_<|zP 1 [yH [(2,yV (AV.bq [AV.own 1 (ag (di m.h m.r)),ai (eU m.h)]))]] [.ae [6,5,12,4,3,2,1,0] [1018,2,1]] [yI (hY m.h m.r),yI (aR (di m.h m.r))]<|zS<|zQ 1 [yH [(1,yV (ao false))]] [yB (ao (eU m.h != (0:Int))=ao false) (by simp [h2])]<|zF 22<|a_<|zS<|zP 1 [yH [(2,yV (ao (m.used != 0)))]] [.ae [27,22,6,5,12,4,3,2,1,0] [1018,2,1]] [yI (cJ m.used 0)]<|du 27 (m.used != 0) (by simp_all)<|zP 1 [{}] [.ae [3,27,22,6,5,12,4,2,1,0] [2,1018,1]] [yL 5 5]<|dk (zV [yJ 0 ((dd m).aB) (by rw [e2]),yK 0 (wv (dd m).head) (by rw [e2];rfl),yJ 0 ((dd m).bt) (by rw [e2]),yB (af aH (dd m).al= []) (by rw [e2];rfl),yB (af bc (dd m).aK= []) (by rw [e2];rfl),yJ 18 (iF m) (by rw [e1])])
 have e1:iF m=0:=by unfold iF;rw [if_neg ah,if_neg ah,if_neg (by simp [h3])]
 have e2:dd m=⟨0,hash 16 (di m.h m.r++m.name),1,[m],[]⟩:=by unfold dd;rw [if_pos e1]
 have hk:=nz m.h m.r
 refine zO Tryz.func19 40<|zq<|zS<|zP 2 [yH [(2,yV (ai (d_ m.name)))],yH [(1,yV (ao false))]] [.ae [12,4,3,2,1,0] [2,1]] [yI (ez m.name hm),yB (ao (d_ m.name != (0:Int))=ao false) (by simp [h1])]<|zF 12<|a_<|zP 1 [yH [(2,yV (AV.bq [AV.own 1 (ag (di m.h m.r)),ai (eU m.h)]))]] [.ae [6,5,12,4,3,2,1,0] [1018,2,1]] [yI (hY m.h m.r),yI (aR (di m.h m.r))]<|zS<|zQ 1 [yH [(1,yV (ao false))]] [yB (ao (eU m.h != (0:Int))=ao false) (by simp [h2])]<|zF 22<|a_<|zS<|zP 1 [yH [(2,yV (ao (m.used != 0)))]] [.ae [27,22,6,5,12,4,3,2,1,0] [1018,2,1]] [yI (cJ m.used 0)]<|bj 27 (m.used != 0) (by simp_all)<|a_<|zP 2 [yH [(5,yV (AV.own 1 (ag (di m.h m.r++m.name.toArray.toList)))),(6,yV (aw (hash (16:Int) (di m.h m.r++m.name.toArray.toList))))],{}] [.ae [3,7,27,22,6,5,12,4,2,1,0] [2,38,1]] [yI hz,yI (Bq (di m.h m.r) m.name.toArray.toList (by simp only [];omega)),yI (aR (di m.h m.r++m.name.toArray.toList)),yI (nH ((16:Int)) (di m.h m.r++m.name.toArray.toList)),yL 5 5]<|zR (zV [yJ 0 ((dd m).aB) (by rw [e2]),yK (wv (hash (16:Int) (di m.h m.r++m.name.toArray.toList))) (wv (dd m).head) (by rw [e2]),yJ 1 ((dd m).bt) (by rw [e2]),yB ((aH m)=af aH (dd m).al) (by rw [e2];rfl),yB (af bc (dd m).aK= []) (by rw [e2];rfl),yJ 0 (iF m) (by rw [e1])])
def SE (g:gK):List AV:=[ai g.aB,aw g.head,ai g.bt,.sl 4 (af aH g.al),.own 7 (af bc g.aK)]
theorem B3 (m:Mem) (hm:m.name.length≤1000):bK Tryz.prog 20 [.agg (aH m)] (.bq [.agg (SE (dd m)),ai (iF m)]):=by
 have hz:=qI m.name hm
 by_cases h1:d_ m.name=0
 case neg =>
  have e1:iF m=d_ m.name:=if_pos h1
  have e2:dd m=⟨0,0,0,[],[]⟩:=by unfold dd;rw [if_neg ah]
  refine zO Tryz.func20 36<|zq<|zS<|zP 2 [yH [(2,yV (ai (d_ m.name)))],yH [(1,yV (ao true))]] [.ae [11,4,3,2,1,0] [2,1]] [yI (fz m.name hm),yB (ao (d_ m.name != (0:Int))=ao true) (by simp [h1])]<|zT 11<|zP 1 [{}] [.ae [3,11,4,2,1,0] [2,1]] [yL 5 5]<|dk (zV [yJ 0 ((dd m).aB) (by rw [e2]),yK 0 (wv (dd m).head) (by rw [e2];rfl),yJ 0 ((dd m).bt) (by rw [e2]),yB (af aH (dd m).al= []) (by rw [e2];rfl),yB (af bc (dd m).aK= []) (by rw [e2];rfl),yJ (d_ m.name) (iF m) (by rw [e1])])
 by_cases h2:eU m.h=0
 case neg =>
  have e1:iF m=eU m.h:=by unfold iF;rw [if_neg ah,if_pos h2]
  have e2:dd m=⟨0,0,0,[],[]⟩:=by unfold dd;rw [if_neg ah]
  refine zO Tryz.func20 36<|zq<|zS<|zP 2 [yH [(2,yV (ai (d_ m.name)))],yH [(1,yV (ao false))]] [.ae [11,4,3,2,1,0] [2,1]] [yI (fz m.name hm),yB (ao (d_ m.name != (0:Int))=ao false) (by simp [h1])]<|zF 11<|a_<|zP 1 [yH [(2,yV (AV.bq [AV.own 1 (ag (di m.h m.r)),ai (eU m.h)]))]] [.ae [6,5,11,4,3,2,1,0] [1017,2,1]] [yI (gD m.h m.r),yI (aR (di m.h m.r))]<|zS<|zQ 1 [yH [(1,yV (ao true))]] [yB (ao (eU m.h != (0:Int))=ao true) (by simp [h2])]<|zT 21<|zP 1 [{}] [.ae [3,21,6,5,11,4,2,1,0] [2,1017,1]] [yL 5 5]<|dk (zV [yJ 0 ((dd m).aB) (by rw [e2]),yK 0 (wv (dd m).head) (by rw [e2];rfl),yJ 0 ((dd m).bt) (by rw [e2]),yB (af aH (dd m).al= []) (by rw [e2];rfl),yB (af bc (dd m).aK= []) (by rw [e2];rfl),yJ (eU m.h) (iF m) (by rw [e1])])
 by_cases h3:m.used=0
 case neg =>
  have e1:iF m=18:=by unfold iF;rw [if_neg ah,if_neg ah,if_pos h3]
  have e2:dd m=⟨0,0,0,[],[]⟩:=by unfold dd;rw [if_neg ah]
  refine zO Tryz.func20 36<|zq<|zS<|zP 2 [yH [(2,yV (ai (d_ m.name)))],yH [(1,yV (ao false))]] [.ae [11,4,3,2,1,0] [2,1]] [yI (fz m.name hm),yB (ao (d_ m.name != (0:Int))=ao false) (by simp [h1])]<|zF 11<|a_<|zP 1 [yH [(2,yV (AV.bq [AV.own 1 (ag (di m.h m.r)),ai (eU m.h)]))]] [.ae [6,5,11,4,3,2,1,0] [1017,2,1]] [yI (gD m.h m.r),yI (aR (di m.h m.r))]<|zS<|zQ 1 [yH [(1,yV (ao false))]] [yB (ao (eU m.h != (0:Int))=ao false) (by simp [h2])]<|zF 21<|a_<|zS<|zP 1 [yH [(2,yV (ao (m.used != 0)))]] [.ae [26,21,6,5,11,4,3,2,1,0] [1017,2,1]] [yI (cJ m.used 0)]<|du 26 (m.used != 0) (by simp_all)<|zP 1 [{}] [.ae [3,26,21,6,5,11,4,2,1,0] [2,1017,1]] [yL 5 5]<|dk (zV [yJ 0 ((dd m).aB) (by rw [e2]),yK 0 (wv (dd m).head) (by rw [e2];rfl),yJ 0 ((dd m).bt) (by rw [e2]),yB (af aH (dd m).al= []) (by rw [e2];rfl),yB (af bc (dd m).aK= []) (by rw [e2];rfl),yJ 18 (iF m) (by rw [e1])])
 have e1:iF m=0:=by unfold iF;rw [if_neg ah,if_neg ah,if_neg (by simp [h3])]
 have e2:dd m=⟨0,hash 16 (di m.h m.r++m.name),1,[m],[]⟩:=by unfold dd;rw [if_pos e1]
 have hk:=nz m.h m.r
 have R3:(ag (di m.h m.r)).length≤9:=by rw [aC];exact hk
 have zc:(ag m.name.toArray.toList).length≤1000:=by rw [aC];exact hm
 refine zO Tryz.func20 36<|zq<|zS<|zP 2 [yH [(2,yV (ai (d_ m.name)))],yH [(1,yV (ao false))]] [.ae [11,4,3,2,1,0] [2,1]] [yI (fz m.name hm),yB (ao (d_ m.name != (0:Int))=ao false) (by simp [h1])]<|zF 11<|a_<|zP 1 [yH [(2,yV (AV.bq [AV.own 1 (ag (di m.h m.r)),ai (eU m.h)]))]] [.ae [6,5,11,4,3,2,1,0] [1017,2,1]] [yI (gD m.h m.r),yI (aR (di m.h m.r))]<|zS<|zQ 1 [yH [(1,yV (ao false))]] [yB (ao (eU m.h != (0:Int))=ao false) (by simp [h2])]<|zF 21<|a_<|zS<|zP 1 [yH [(2,yV (ao (m.used != 0)))]] [.ae [26,21,6,5,11,4,3,2,1,0] [1017,2,1]] [yI (cJ m.used 0)]<|bj 26 (m.used != 0) (by simp_all)<|a_<|zS<|y9 7 [3] [(3,{av:=some (AV.arr (ag (di m.h m.r++m.name.toArray.toList))),b:=false}),(4,yV (aw (hash (16:Int) (di m.h m.r++m.name.toArray.toList))))] [yB (ag (di m.h m.r)++ag m.name.toArray.toList=ag (di m.h m.r++m.name.toArray.toList)) (cZ _ _),yB (cE (ag m.name.toArray.toList)) (fO _),yO (((ag (di m.h m.r)).length+(ag m.name.toArray.toList).length)*1≤140737488355328),yI (ix ((16:Int)) (di m.h m.r++m.name.toArray.toList) (by simp only [List.length_append];omega)),yR (AV.agg (aH m)),yR (AV.sl 4 (aH m)),yL 5 5]<|ak<|bf.sv [.ae [3,26,21,6,11,4,2,1,0] [2,1]] bh<|zR (zV [yJ 0 ((dd m).aB) (by rw [e2]),yK (wv (hash (16:Int) (di m.h m.r++m.name.toArray.toList))) (wv (dd m).head) (by rw [e2]),yJ 1 ((dd m).bt) (by rw [e2]),yB ((aH m)=af aH (dd m).al) (by rw [e2];rfl),yB (af bc (dd m).aK= []) (by rw [e2];rfl),yJ 0 (iF m) (by rw [e1])])
theorem mu {l:List Mem} {i:Nat} (h:i<l.length):List.take 4 (List.drop (i*4) (af aH l))=aH (l.getD i default):=jn (e:=4) (fun _=>rfl) h
theorem zH (g:gK) (hm:g.al.length≤1000000) (hd:g.aK.length≤1000000) (hh:∀d∈g.aK,d.aa.length≤1000000):bK Tryz.prog 21 [.agg (bB g),.agg (bB g)] (ao true):=by
 have mb:(af aH g.al).length=g.al.length*4:=aF (e:=4) (fun _=>rfl) ..
 have qD:(af bc g.aK).length=g.aK.length*7:=aF (e:=7) (fun _=>rfl) ..
 refine zO Tryz.func21 81<|zq<|zS<|zP 1 [yH ([(10,{av:=some (ao (g.head != g.head)),g:=false}),(11,{b:=false}),(18,{b:=false}),(22,{k:=g.al.length,g:=false}),(25,{k:=g.al.length,g:=false}),(27,{b:=false}),(31,{k:=g.aK.length,g:=false}),(34,{k:=g.aK.length,g:=false}),(36,{b:=false})]++yg [6,7,8,9,13,14,15,16,17,20,21,23,24,26,29,30,32,33,35])] [.ae [43,4,3,2,0,1] [3,2]] (yM 5 (yS ((g.aB != g.aB)=false))++ [yS (ao (wv g.head != wv g.head)=ao (g.head != g.head)),yS ((g.aB != g.aB)=false)]++yM 6 (yS ((g.head != g.head)=false))++yM 3 (yS ((g.bt != g.bt)=false))++ [yI mb]++yM 3 (yS ((g.bt != g.bt)=false))++ [yI mb]++yM 2 (yS ((g.bt != g.bt)=false))++yM 3 (yS (((↑g.al.length:Int) != (↑g.al.length:Int))=false))++ [yI qD]++yM 3 (yS (((↑g.al.length:Int) != (↑g.al.length:Int))=false))++ [yI qD]++yM 2 (yS (((↑g.al.length:Int) != (↑g.al.length:Int))=false)))<|bj 43 ((↑g.aK.length:Int) != (↑g.aK.length:Int)) (by simp_all)<|a_<|zS<|zq<|zB 0 (zL (fun (i:Nat)=>(⟨[(43,ao ((↑g.aK.length:Int) != (↑g.aK.length:Int))),(3,AV.addr 3 0),(2,AV.addr 2 0),(0,AV.agg (bB g)),(1,AV.agg (bB g)),(5,ai i)],[(3,⟨1,false,true,(bB g)⟩),(2,⟨1,false,true,List.map (aD 3) (List.map (aD 2) (bB g))⟩)]⟩:AS)) (fun i=>(i≤g.al.length)) (fun i=>(g.al.length-i)) (0) ?_ (zW [.ae [43,3,2,0,1,5] [3,2]]) ?_)
 ·omega
 intro i hi
 refine zS<|zP 1 [yH [(3,{k:=g.al.length})]] [.ae [48,43,3,2,0,1,5] [3,2]] [yI mb] (zD 48 ((↑i:Int)<(↑g.al.length:Int)) (fun h=>?_) (fun h=>?_))
 ·have dz:i<g.al.length:=ah
  have gh:=mu dz
  refine a_<|zS<|zB 1<|zP 1 [{hs:=[(3,{k:=i}),(4,yV (AV.agg (aH (g.al.getD i default)))),(8,{k:=i}),(9,yV (AV.agg (aH (g.al.getD i default))))],T:=10}] [.ae [61,48,43,3,2,0,1,5] [3,2]] [yR (↑i:Int),yO (i*4<(af aH g.al).length),yu aH g.al i 0 4,yR 4,yR (↑i:Int),yO (i*4<(af aH g.al).length),yu aH g.al i 0 4,yR 4]<|bj 61 (!((ByteArray.mk (g.al.getD i default).name.toArray).toList == (ByteArray.mk (g.al.getD i default).name.toArray).toList && ((g.al.getD i default).h == (g.al.getD i default).h && (wv (g.al.getD i default).r == wv (g.al.getD i default).r && true) && (wv (g.al.getD i default).used == wv (g.al.getD i default).used && true)))) (by simp_all)<|zK<|aM<|ak<|zX (yH [(1,yV (ai ((↑i:Int)+1)))]) [yN ((↑i:Int)+1)] (aJ (i+1) (by assumption) ah (zW [.ae [43,3,2,0,1,5] [3,2]]))
 ·skip
  refine zE 0<|a7<|aO<|bn<|ak<|zS<|zq<|zB 2 (zL (fun (j:Nat)=>(⟨[(48,ao (decide ((↑i:Int)<(↑g.al.length:Int)))),(43,ao ((↑g.aK.length:Int) != (↑g.aK.length:Int))),(3,AV.addr 3 0),(2,AV.addr 2 0),(0,AV.agg (bB g)),(1,AV.agg (bB g)),(5,ai ↑i),(6,ai j)],[(3,⟨1,false,true,(bB g)⟩),(2,⟨1,false,true,List.map (aD 3) (List.map (aD 2) (bB g))⟩)]⟩:AS)) (fun j=>(j≤g.aK.length)) (fun j=>(g.aK.length-j)) (0) ?_ (zW [.ae [48,43,3,2,0,1,5,6] [3,2]]) ?_)
  ·omega
  intro j hj
  refine zS<|zP 1 [yH [(3,{k:=g.aK.length})]] [.ae [66,48,43,3,2,0,1,5,6] [3,2]] [yI qD] (zD 66 ((↑j:Int)<(↑g.aK.length:Int)) (fun h2=>?_) (fun h2=>?_))
  ·have xV:j<g.aK.length:=ah
   have UY:(g.aK.getD j default).aa.length≤1000000:=hh _ (by rw [List.getD_eq_getElem?_getD,List.getElem?_eq_getElem xV];exact List.getElem_mem xV)
   have hs:=zI (g.aK.getD j default) UY
   refine a_<|zS<|zB 3<|zP 1 [{hs:=[(3,{k:=j}),(4,yV (AV.agg (bc (g.aK.getD j default)))),(8,{k:=j}),(9,yV (AV.agg (bc (g.aK.getD j default)))),(10,yV (ao true))],T:=10}] [.ae [80,66,48,43,3,2,0,1,5,6] [3,2]] [yR (↑j:Int),yO (j*7<(af bc g.aK).length),yu bc g.aK j 0 7,yR 7,yR (↑j:Int),yO (j*7<(af bc g.aK).length),yu bc g.aK j 0 7,yR 7,yI hs]<|zF 80<|zK<|aM<|ak<|zX (yH [(1,yV (ai ((↑j:Int)+1)))]) [yN ((↑j:Int)+1)] (aJ (j+1) (by assumption) ah (zW [.ae [48,43,3,2,0,1,5,6] [3,2]]))
  ·skip
   refine zE 2<|a7<|aO<|bn<|ak<|zq<|zR (bV)
def vc (d:m0):Prop:=d.bR=0∧d.peer=0∧d.box.length=0∧d.aa.length=0∧d.au.length=0∧d.need=0∧d.target=0
instance (d:m0):Decidable (vc d):=inferInstanceAs (Decidable (_∧_∧_∧_∧_∧_∧_))
def fe (e:eF):Prop:=(e.kind=1∨e.kind=2∨e.name= [])∧(e.kind=1∨e.kh=0∧e.kr=0)∧(e.kind=3∨e.bt=0)∧(e.kind=4∨vc e.dep)∧(e.kind=5∨e.bR=0∧e.target=0)∧e.dep.target=0
instance (e:eF):Decidable (fe e):=inferInstanceAs (Decidable (_∧_∧_∧_∧_∧_))
def fC (d:m0):Int:=if 1024<d.box.length then 8 else if nO d.aa.length d.need then 9 else if d.au.length≠d.aa.length then 4 else ff (mE d.aa) d.aa.length
def vd (d:m0):List fE:=[aG d.bR,aG d.peer,dX d.box]++(bD (u64 d.aa.length)::d.aa.map cA)++(bD (u64 d.au.length)::d.au.map aG)++ [aG (u64 d.need)]
def eY (e:eF):Int:=if e.kind=1 then (if d_ e.name≠0 then d_ e.name else eU e.kh) else if e.kind=2 then d_ e.name else if e.kind=3 then (if e.bt<1∨8<e.bt then 9 else 0) else if e.kind=4 then fC e.dep else if e.target=0 then 9 else 0
def f_ (e:eF):List fE:=if e.kind=1 then [cA e.name,dX (di e.kh e.kr)] else if e.kind=2 then [cA e.name] else if e.kind=3 then [aG (u64 e.bt)] else if e.kind=4 then vd e.dep else [aG e.bR,aG e.target]
def fw (k:Int):Nat:=if k=1∨k=5 then 2 else if k=4 then 6 else 1
def eu (e:eF):Int:=if e.kind<1∨5<e.kind then 3 else if ¬fe e then 4 else if e.aB<1∨2147483647<e.aB then 9 else eY e
def fQ (e:eF):List fE:=bD (u64 (3+fw e.kind)):: [aG (u64 e.aB),aG e.prev,aG (u64 e.kind)]++f_ e
def fA (e:eF):List UInt8:=if eu e=0 then gR (fQ e) else []
def de (e:eF):UInt64:=hash 16 (fA e)
def i4 (e:eF):List (List fE):=if e.kind=4 then [[aG e.dep.bR],[aG e.dep.peer],[dX e.dep.box],bD (u64 e.dep.aa.length)::e.dep.aa.map cA,bD (u64 e.dep.au.length)::e.dep.au.map aG,[aG (u64 e.dep.need)]] else (f_ e).map fun x=>[x]
theorem HG {x:List UInt8} (h:d_ x=0):1≤x.length∧x.length≤32:=by
 apply Classical.byContradiction
 intro q
 have:=pX (x:=x) ah
 omega
theorem HF {x:List UInt8} (h:d_ x=0):Lib.validD x=true:=by
 have:=HG h
 cases e:Lib.validD x with
 | true=>rfl
 | false=>have:=xD (x:=x) ah e;omega
theorem Is {l:List (List UInt8)} {i:Nat} (h:mE l i=0):d_ (l.getD i default)=0:=by
 apply Classical.byContradiction
 intro q
 rw [Iv rfl q] at h
 exact q h
theorem sW {x:List UInt8} (h:d_ x=0):eO (cA x):=.text (by have:=HG h;omega) (HF h)
structure Qy (d:m0):Prop where
 box:d.box.length≤1024
 n1:1≤d.aa.length
 n8:d.aa.length≤8
 need:1≤d.need∧d.need≤d.aa.length
 NL:d.au.length=d.aa.length
 zb:∀x∈d.aa,d_ x=0
theorem Jq {d:m0} (h:fC d=0):Qy d:=by
 unfold fC at h
 by_cases c1:1024<d.box.length
 ·rw [if_pos c1] at h;omega
 rw [if_neg c1] at h
 by_cases c2:nO d.aa.length d.need
 ·rw [if_pos c2] at h;omega
 rw [if_neg c2] at h
 by_cases c3:d.au.length≠d.aa.length
 ·rw [if_pos c3] at h;omega
 rw [if_neg c3] at h
 unfold nO at c2
 refine ⟨ah,ah,ah,ah,ah,fun x hx=>?_⟩
 obtain ⟨i,hi,rfl⟩:=List.mem_iff_getElem.1 hx
 have:=Is (ye h i hi)
 rwa [List.getD_eq_getElem?_getD,List.getElem?_eq_getElem hi] at this
theorem mB {T:Type} {f:T->fE} {l:List T} (h:∀x∈l,eO (f x)):∀y∈l.map f,eO y:=fun y hy=>by
 obtain ⟨x,hx,rfl⟩:=List.mem_map.1 hy
 exact h x hx
theorem HZ (h:Int) (r:UInt64):eO (dX (di h r)):=.byte (by have:=nz h r;omega)
theorem la {x:fE} (h:eO x):eM x.kind∧x.cI.length≤10000:=by
 refine ⟨?_,by have:=h.cI;omega⟩
 rcases h.kind with q|q|q
 ·exact .inl q
 ·exact .inr (.inl q)
 ·exact .inr (.inr (.inl q))
theorem mL (n:UInt64):eM (bD n).kind∧(bD n).cI.length≤10000:=⟨.inr (.inr (.inr rfl)),Nat.zero_le _⟩
structure Oe (e:eF):Prop where
 T9:JN ([[aG (u64 e.aB)],[aG e.prev],[aG (u64 e.kind)]]++i4 e)
 Wr:ff (oB ([[aG (u64 e.aB)],[aG e.prev],[aG (u64 e.kind)]]++i4 e)) (3+(i4 e).length)=0
 arr:pz ([[aG (u64 e.aB)],[aG e.prev],[aG (u64 e.kind)]]++i4 e)=fQ e
 VZ:eP (fQ e)=0
 len:(fQ e).length≤30
 S5:∀x∈fQ e,eM x.kind∧x.cI.length≤10000
 n6:(i4 e).length≤6
theorem CM {e:eF} (h:eY e=0) (h4:e.kind≠4):∀x∈f_ e,eO x:=by
 intro x hx
 unfold eY at h
 unfold f_ at hx
 by_cases k1:e.kind=1
 ·rw [if_pos k1] at h hx
  have hn:d_ e.name=0:=by
   apply Classical.byContradiction;intro q;rw [if_pos q] at h;exact q h
  simp only [List.mem_cons,List.not_mem_nil,or_false] at hx
  rcases hx with rfl|rfl
  ·exact sW hn
  ·exact HZ _ _
 rw [if_neg k1] at h hx
 by_cases k2:e.kind=2
 ·rw [if_pos k2] at h hx
  obtain rfl:=List.mem_singleton.1 hx
  exact sW h
 rw [if_neg k2] at h hx
 by_cases k3:e.kind=3
 ·rw [if_pos k3] at hx
  obtain rfl:=List.mem_singleton.1 hx
  exact .uint _
 rw [if_neg k3] at hx
 rw [if_neg h4] at hx
 simp only [List.mem_cons,List.not_mem_nil,or_false] at hx
 rcases hx with rfl|rfl
 ·exact .uint _
 ·exact .uint _
theorem Li {e:eF} (hk:1≤e.kind∧e.kind≤5) (h4:e.kind≠4):(f_ e).length=fw e.kind:=by
 unfold f_ fw
 by_cases k1:e.kind=1
 ·rw [if_pos k1,if_pos (.inl k1)];rfl
 rw [if_neg k1]
 by_cases k2:e.kind=2
 ·rw [if_pos k2,if_neg ah,if_neg h4];rfl
 rw [if_neg k2]
 by_cases k3:e.kind=3
 ·rw [if_pos k3,if_neg ah,if_neg h4];rfl
 rw [if_neg k3,if_neg h4,if_pos ah];rfl
theorem DQ (k:Int):1≤fw k∧fw k≤6:=by unfold fw;split<;>(try split)<;>omega
theorem EK {f:Nat->Int}:∀ {n:Nat},(∀j,j<n->f j=0)->ff f n=0
 | 0,_=>rfl
 | n+1,h=>by
  show (if _ then _ else _)=_
  rw [if_neg (by rw [EK fun j hj=>h j ah];decide)]
  exact h n ah
theorem NC {vs:List (List fE)} (h:∀v∈vs,eP v=0):ff (oB vs) vs.length=0:=EK fun j hj=>by
 show eP (vs.getD j default)=0
 rw [List.getD_eq_getElem?_getD,List.getElem?_eq_getElem hj]
 exact h _ (List.getElem_mem hj)
theorem zo {n:UInt64} {xs:List fE} (hx:∀x∈xs,eO x) (hn:wv n=xs.length) (h1:1≤xs.length) (h2:xs.length≤100):eP (bD n::xs)=0:=DO hx hn h1 h2
theorem yX {e:eF} (h:eu e=0):Oe e:=by
 unfold eu at h
 by_cases k0:e.kind<1∨5<e.kind
 ·rw [if_pos k0] at h;omega
 rw [if_neg k0] at h
 by_cases c1:¬fe e
 ·rw [if_pos c1] at h;omega
 rw [if_neg c1] at h
 by_cases c2:e.aB<1∨2147483647<e.aB
 ·rw [if_pos c2] at h;omega
 rw [if_neg c2] at h
 have ht:=DQ e.kind
 have hw:wv (u64 (3+fw e.kind))=(3+fw e.kind:Nat):=by rw [show (3:Int)+fw e.kind=((3+fw e.kind:Nat):Int) by omega,qG];omega
 have h3:∀x∈ [aG (u64 e.aB),aG e.prev,aG (u64 e.kind)],eO x:=fun x hx=>by
  simp only [List.mem_cons,List.not_mem_nil,or_false] at hx
  rcases hx with rfl|rfl|rfl<;>exact .uint _
 by_cases k4:e.kind=4
 ·have hd:fC e.dep=0:=by
   unfold eY at h
   rwa [if_neg ah,if_neg ah,if_neg ah,if_pos k4] at h
  have ok:=Jq hd
  have n1:=ok.n1
  have n8:=ok.n8
  have U7:=ok.NL
  have hH:∀x∈e.dep.aa.map cA,eO x:=mB fun x hx=>sW (ok.zb x hx)
  have hD:∀x∈e.dep.au.map aG,eO x:=mB fun x _=>.uint x
  have hB:eO (dX e.dep.box):=.byte ok.box
  have wH:wv (u64 (e.dep.aa.length:Int))=(e.dep.aa.map cA).length:=by rw [qG,List.length_map];omega
  have wD:wv (u64 (e.dep.au.length:Int))=(e.dep.au.map aG).length:=by rw [qG,List.length_map];omega
  have tk:fw e.kind=6:=by unfold fw;rw [if_neg ah,if_pos k4]
  have hv:i4 e= [[aG e.dep.bR],[aG e.dep.peer],[dX e.dep.box],bD (u64 e.dep.aa.length)::e.dep.aa.map cA,bD (u64 e.dep.au.length)::e.dep.au.map aG,[aG (u64 e.dep.need)]]:=if_pos k4
  have hf:f_ e=vd e.dep:=by unfold f_;rw [if_neg ah,if_neg ah,if_neg ah,if_pos k4]
  have GA:(e.dep.aa.map cA).length=e.dep.aa.length:=List.length_map ..
  have Cx:(e.dep.au.map aG).length=e.dep.aa.length:=by rw [List.length_map];exact U7
  have each:∀v∈ [[aG (u64 e.aB)],[aG e.prev],[aG (u64 e.kind)]]++i4 e,v.length≤20∧eP v=0∧ ∀x∈v,eM x.kind∧x.cI.length≤10000:=by
   have one:∀x,eO x-> [x].length≤20∧eP [x]=0∧ ∀y∈ [x],eM y.kind∧y.cI.length≤10000:=fun x hx=>⟨by simp,zn hx,fun y hy=>by obtain rfl:=List.mem_singleton.1 hy;exact la hx⟩
   intro v H8
   rw [hv] at H8
   simp only [List.cons_append,List.nil_append,List.mem_cons,List.not_mem_nil,or_false] at H8
   rcases H8 with rfl|rfl|rfl|rfl|rfl|rfl|rfl|rfl|rfl
   ·exact one _ (.uint _)
   ·exact one _ (.uint _)
   ·exact one _ (.uint _)
   ·exact one _ (.uint _)
   ·exact one _ (.uint _)
   ·exact one _ hB
   ·refine ⟨by rw [List.length_cons,GA];omega,zo hH wH ah ah,fun y hy=>?_⟩
    rcases List.mem_cons.1 hy with rfl|hy
    ·exact mL _
    ·exact la (hH y hy)
   ·refine ⟨by rw [List.length_cons,Cx];omega,zo hD wD ah ah,fun y hy=>?_⟩
    rcases List.mem_cons.1 hy with rfl|hy
    ·exact mL _
    ·exact la (hD y hy)
   ·exact one _ (.uint _)
  have Ot:([[aG (u64 e.aB)],[aG e.prev],[aG (u64 e.kind)]]++i4 e).length=9:=by rw [hv];rfl
  have ha:pz ([[aG (u64 e.aB)],[aG e.prev],[aG (u64 e.kind)]]++i4 e)=fQ e:=by
   unfold pz fQ
   rw [Ot,hf,hv,tk]
   unfold vd
   simp
  have L7:(fQ e).length=10+2*e.dep.aa.length:=by
   unfold fQ
   rw [hf]
   unfold vd
   simp only [List.length_cons,List.length_append,GA,Cx,List.length_nil]
   omega
  refine ⟨⟨by rw [Ot];omega,fun v h=>(each v h).1,fun v h x hx=>((each v h).2.2 x hx).1,fun v h x hx=>((each v h).2.2 x hx).2⟩,?_,ha,?_,ah,?_,by rw [hv];exact Nat.le_refl _⟩
  ·have:=NC fun v h=>(each v h).2.1
   rw [Ot] at this
   rw [show 3+(i4 e).length=9 by rw [hv];rfl]
   exact this
  ·refine Kc ah ?_
   have w9:wv (u64 (3+fw e.kind))=9:=by rw [hw,tk];rfl
   have e1:fQ e=bD (u64 (3+fw e.kind))::([aG (u64 e.aB),aG e.prev,aG (u64 e.kind),aG e.dep.bR,aG e.dep.peer,dX e.dep.box]++((bD (u64 e.dep.aa.length)::e.dep.aa.map cA)++((bD (u64 e.dep.au.length)::e.dep.au.map aG)++ [aG (u64 e.dep.need)]))):=by
    unfold fQ
    rw [hf]
    unfold vd
    simp
   have l6:∀x∈ [aG (u64 e.aB),aG e.prev,aG (u64 e.kind),aG e.dep.bR,aG e.dep.peer,dX e.dep.box],eO x:=fun x hx=>by
    simp only [List.mem_cons,List.not_mem_nil,or_false] at hx
    rcases hx with rfl|rfl|rfl|rfl|rfl|rfl
    ·exact .uint _
    ·exact .uint _
    ·exact .uint _
    ·exact .uint _
    ·exact .uint _
    ·exact hB
   rw [e1,Hf _ ah ah,w9,nj,tM (by simp) l6 (show ((6:Nat):Int)<9 by omega) (ah:1+6≤500)]
   show lq ([]++ [(9:Int)-6]) (1+6) _=_
   rw [nj,wm (by simp) hH wH ah (by decide) ah]
   show lq ([]++ [(9:Int)-6-1]) (1+6+(bD (u64 e.dep.aa.length)::e.dep.aa.map cA).length) _=_
   rw [List.length_cons,GA,nj,wm (by simp) hD wD ah (by decide) ah]
   show lq ([]++ [(([aG (u64 e.dep.need)]:List fE).length:Int)]) _ [aG (u64 e.dep.need)]=_
   have R1:(bD (u64 (e.dep.au.length:Int))::e.dep.au.map aG).length=e.dep.aa.length+1:=by rw [List.length_cons,Cx]
   rw [R1]
   exact tN (f:=[]) (xs:=[aG (u64 e.dep.need)]) (Nat.zero_le _) (fun x hx=>by obtain rfl:=List.mem_singleton.1 hx;exact .uint _) Nat.zero_lt_one (by show _+1≤_;omega)
  ·intro x hx
   rw [←ha] at hx
   unfold pz at hx
   rcases List.mem_cons.1 hx with rfl|hx
   ·exact mL _
   ·obtain ⟨v,MZ,MY⟩:=List.mem_flatten.1 hx
    exact (each v MZ).2.2 x MY
 ·have K0:=CM h k4
  have L7:=Li (e:=e) ah k4
  have hv:i4 e=(f_ e).map fun x=>[x]:=if_neg k4
  have Th:∀x∈ [aG (u64 e.aB),aG e.prev,aG (u64 e.kind)]++f_ e,eO x:=fun x hx=>by
   rcases List.mem_append.1 hx with hx|hx
   ·exact h3 x hx
   ·exact K0 x hx
  have TA:([aG (u64 e.aB),aG e.prev,aG (u64 e.kind)]++f_ e).length=3+fw e.kind:=by rw [List.length_append,L7];rfl
  obtain ⟨v1,v2,v3,v4⟩:=pa Th ah ah
  have hm:([aG (u64 e.aB),aG e.prev,aG (u64 e.kind)]++f_ e).map (fun x=>[x])= [[aG (u64 e.aB)],[aG e.prev],[aG (u64 e.kind)]]++i4 e:=by rw [List.map_append,hv];rfl
  rw [hm] at v1 v2 v3 v4
  have ha:pz ([[aG (u64 e.aB)],[aG e.prev],[aG (u64 e.kind)]]++i4 e)=fQ e:=by
   rw [v4,TA]
   unfold fQ
   rw [show ((3+fw e.kind:Nat):Int)=3+fw e.kind by omega];rfl
  have Nb:(fQ e).length=1+(3+fw e.kind):=by
   rw [←ha,v4,List.length_cons,TA];omega
  refine ⟨v1,?_,ha,by rw [←ha];exact v3,ah,fun x hx=>?_,by rw [hv,List.length_map];omega⟩
  ·rw [List.length_append] at v2
   exact v2
  ·rw [←ha,v4] at hx
   rcases List.mem_cons.1 hx with rfl|hx
   ·exact mL _
   ·exact la (Th x hx)
def dF (l:List Mem) (h:List UInt8):Int:=if (∃m∈l,m.name=h) then (l.findIdx (fun m=>m.name == h):Int) else -1
theorem xH {l:List Mem} {h:List UInt8} (hn:∀j,j<l.length->(l.getD j default).name≠h):dF l h= -1:=by
 unfold dF
 rw [if_neg]
 rintro ⟨m,hm,e⟩
 obtain ⟨j,hj,e2⟩:=List.getElem_of_mem hm
 exact hn j hj (by rw [List.getD_eq_getElem?_getD,List.getElem?_eq_getElem hj];show l[j].name=h;rw [e2];exact e)
theorem xJ {l:List Mem} {h:List UInt8} {i:Nat} (hi:i<l.length) (hn:∀j,j<i->(l.getD j default).name≠h) (e:(l.getD i default).name=h):dF l h=i:=by
 rw [List.getD_eq_getElem?_getD,List.getElem?_eq_getElem hi] at e
 have e:l[i].name=h:=e
 unfold dF
 rw [if_pos ⟨l[i],List.getElem_mem hi,e⟩]
 have:l.findIdx (fun m=>m.name == h)=i:=(List.findIdx_eq hi).2 ⟨by simpa using e,fun j hj=>by
  have:=hn j hj
  rw [List.getD_eq_getElem?_getD,List.getElem?_eq_getElem ah] at this
  simpa using this⟩
 rw [this]
theorem Cn (seed:UInt64) (h:Int):bK Tryz.prog 97 [aw seed,ai h] (.lI 142 [.ptr [ai h] 0,.ptr [aw seed] 0]):=by
 refine zO Tryz.func97 6<|zP 2 [{},{}] [.ae [4,3,2,0,1] []] []<|zR (zV [yR [AV.ptr [ai h] 0,AV.ptr [aw seed] 0]])
def kK (seed:UInt64) (h i:Nat):List UInt64:=(List.range (2^(h-i))).map (fS seed i)
theorem p7 (seed:UInt64) (h i:Nat):(kK seed h i).length=2^(h-i):=by simp [kK]
theorem p8 (seed:UInt64) (h i k:Nat) (hk:k<2^(h-i)):(kK seed h i).getD k 0=fS seed i k:=by simp [kK,hk]
def xM (yv:Value) (seed:UInt64) (h:Nat) (fk:Nat) (l:List UInt64):AS :=
 ⟨[(0,.val yv),(1,.ptr [ai (h:Int)] 0),(2,.ptr [aw seed] 0),(4,.ref 11),(6,ai (fk:Int))],[(11,⟨1,true,false,aj l⟩)]⟩
theorem KK (yv:Value) (seed:UInt64) (h:Nat) (hh:h≤4):bf Tryz.prog 63 (Code.seq (il (dt Tryz.f142)) (Code.seq (il (dH (dt Tryz.f142))) (Code.seq (il (dH (dH (dt Tryz.f142)))) .skip))) (fun e s'=>e= .normal∧bS s' (xM yv seed h 0 (kK seed h 0))) ⟨kV 0 [.val yv,.ptr [ai (h:Int)] 0,.ptr [aw seed] 0],[]⟩:=by
 have hl:=p7 seed h 0
 have gh:∀k:Nat,k<2^h->(kK seed h 0).getD k 0=combine k (bG seed k 18):=fun k hk=>p8 seed h 0 k hk
 rw [Nat.sub_zero] at hl
 have hp:2^h≤16:=Nat.pow_le_pow_right (by decide) hh
 have Cu:IntKind.i64.wrap (1*2^min ((h:Nat):Int).toNat IntKind.i64.bits)=((2^h:Nat):Int):=by
  rcases (ah:h=0∨h=1∨h=2∨h=3∨h=4) with rfl|rfl|rfl|rfl|rfl<;>decide +kernel
 generalize kK seed h 0=L at *
 generalize 2^h=m at *
 refine zP 1 [yH [(1,yV (ai ↑m)),(2,{av:=some (AV.arr (aj (List.replicate m 0))),k:=m,m:=m})]] [.ae [4,0,1,2] [11]] ([yI (yc Cu),yO ((0:Int)≤(↑h:Int)),yB (List.replicate m (cO)=aj (List.replicate m 0)) (tx _)]++yM 2 (yR (↑m:Int))++ [yO (m≤m),yO (8*m≤281474976710656),yB (m≤maxLen) (by unfold maxLen;omega)])<|zS<|zQ 1 [yH [(1,{k:=m})]] [yB ((aj (List.replicate m 0)).length=m) (by simp only [aA,List.length_replicate])]<|zB 0 (zL (fun (k:Nat)=>(⟨[(13,ai ↑m),(4,AV.ref 11),(0,AV.val yv),(1,AV.ptr [ai ↑h] 0),(2,AV.ptr [aw seed] 0),(14,ai k)],[(11,⟨1,true,false,aj (cR m L k)⟩)]⟩:AS)) (fun k=>(k≤m)) (fun k=>(m-k)) (0) ?_ (zW [.ae [13,4,0,1,2,14] [11]]) ?_)
 ·omega
 intro k hk
 have hf:=kq hl hk
 refine zq<|zS (zD 15 ((↑k:Int)<(↑m:Int)) (fun g=>?_) (fun g=>?_))
 ·have e1:=l4 hl (ah:k<m)
  have e2:=gh k ah
  refine a_<|zS<|zB 1<|zq<|zX (yH [(4,yV (aw (combine (↑k:Int) (bG seed (↑k:Int) 18)))),(5,{k:=k}),(6,yV (AV.arr (aj ((cR m L k).set k (combine (↑k:Int) (bG seed (↑k:Int) 18))))))]) [yI (Ao seed ((↑k:Int))),yR (↑k:Int),yB (k<(aj (cR m L k)).length) (by simp only [aA];omega),yB ((aj (cR m L k)).set k (aw (combine (↑k:Int) (bG seed (↑k:Int) 18)))=aj ((cR m L k).set k (combine (↑k:Int) (bG seed (↑k:Int) 18)))) (kt _ _ _),yB (k+1≤(aj (cR m L k)).length) (by simp only [aA];omega)]<|aM<|ak<|zX (yH [(0,yV (ai ((↑k:Int)+1)))]) [yN ((↑k:Int)+1)] (aJ (k+1) ah ah (eK [.ae [13,4,0,1,2,14] [11]] [] [11] [yB (aj ((cR m L k).set k (combine (↑k:Int) (bG seed (↑k:Int) 18)))=aj (cR m L (k+1))) (congrArg aj (by rw [←e2];exact e1))]))
 ·have e:k=m:=ah
  subst e
  have e1:=kN hl
  rw [e1]
  refine zE 0<|a7<|aO<|bn<|ak<|zq<|zK ?_
  exact ⟨rfl,bS.of [.ae [0,1,2,4,6] [11]] (s1:=xM yv seed h 0 L) bh rfl⟩
theorem HU (yv:Value) (seed:UInt64) (h fk:Nat) (hh:h≤4) (RY:fk<h):bf Tryz.prog 63 (dH (ft (ft (dH (dH (dH (dt Tryz.f142))))))) (fun e s'=>e= .normal∧bS s' (xM yv seed h (fk+1) (kK seed h (fk+1)))) (xM yv seed h fk (kK seed h fk)):=by
 have hl:=p7 seed h fk
 have Cx:=p7 seed h (fk+1)
 have em:2^(h-fk)=2*2^(h-(fk+1)):=by rw [show h-fk=h-(fk+1)+1 by omega,Nat.pow_succ,Nat.mul_comm]
 have hp:2^(h-(fk+1))≤16:=Nat.le_trans (Nat.pow_le_pow_right (by decide) (by omega:h-(fk+1)≤4)) (by decide)
 have gh:∀k:Nat,k<2^(h-(fk+1))->(kK seed h (fk+1)).getD k 0=gP ((fk+1:Nat):Int) ((kK seed h fk).getD (2*k) 0) ((kK seed h fk).getD (2*k+1) 0):=fun k hk=>by
  rw [p8 seed h (fk+1) k hk,p8 seed h fk (2*k) ah,p8 seed h fk (2*k+1) ah];rfl
 generalize kK seed h fk=L at *
 generalize kK seed h (fk+1)=L2 at *
 rw [em] at hl
 clear em
 generalize 2^(h-(fk+1))=m at *
 have hq:IntKind.i64.wrap ((L.length:Int).tdiv 2)=(m:Int):=by
  rw [hl,Int.tdiv_eq_ediv_of_nonneg ah,e_ ah ah];omega
 show bf _ _ _ _ (AS.mk [(0,.val yv),(1,.ptr [ai (h:Int)] 0),(2,.ptr [aw seed] 0),(4,.ref 11),(6,ai (fk:Int))] [(11,Row.mk 1 true false (aj L))])
 refine zS<|zB 3<|zP 1 [yH [(1,{k:=L.length}),(2,yV (ai ↑m)),(3,{av:=some (AV.arr (aj (List.replicate m 0))),k:=m,m:=m})]] [.ae [7,0,1,2,4,6] [38,11]] ([yI (aA L),yI (yc hq),yO ((2:Int)≠(0:Int)),yB (List.replicate m (cO)=aj (List.replicate m 0)) (tx _)]++yM 2 (yR (↑m:Int))++ [yO (m≤m),yO (8*m≤281474976710656),yB (m≤maxLen) (by unfold maxLen;omega)])<|zS<|zQ 1 [yH [(1,{k:=m})]] [yB ((aj (List.replicate m 0)).length=m) (by simp only [aA,List.length_replicate])]<|zB 4 (zL (fun (k:Nat)=>(⟨[(40,ai ↑m),(7,AV.ref 38),(0,AV.val yv),(1,AV.ptr [ai ↑h] 0),(2,AV.ptr [aw seed] 0),(4,AV.ref 11),(6,ai ↑fk),(41,ai k)],[(11,⟨1,true,false,aj L⟩),(38,⟨1,true,false,aj (cR m L2 k)⟩)]⟩:AS)) (fun k=>(k≤m)) (fun k=>(m-k)) (0) ?_ (zW [.ae [40,7,0,1,2,4,6,41] [11,38]]) ?_)
 ·omega
 intro k hk
 have hf:=kq Cx hk
 refine zq<|zS (zD 42 ((↑k:Int)<(↑m:Int)) (fun g=>?_) (fun g=>?_))
 ·have e1:=l4 Cx (ah:k<m)
  have e2:=gh k ah
  have w1:IntKind.i64.wrap ((fk:Int)+1)=((fk+1:Nat):Int):=by rw [e_ ah ah];omega
  have w2:IntKind.i64.wrap (2*(k:Int))=((2*k:Nat):Int):=by rw [e_ ah ah];omega
  have w3:IntKind.i64.wrap (((2*k:Nat):Int)+1)=((2*k+1:Nat):Int):=by rw [e_ ah ah];omega
  refine a_<|zS<|zB 5<|zq<|zX ({hs:=[(3,yV (ai (↑(fk+1):Int))),(6,yV (ai (↑(2*k):Int))),(7,{k:=2*k}),(8,yV (aw (L.getD (2*k) 0))),(11,yV (ai (↑(2*k):Int))),(12,yV (ai (↑(2*k+1):Int))),(13,{k:=2*k+1}),(14,yV (aw (L.getD (2*k+1) 0))),(15,yV (aw (gP (↑(fk+1):Int) (L.getD (2*k) 0) (L.getD (2*k+1) 0)))),(16,{k:=k}),(17,yV (AV.arr (aj ((cR m L2 k).set k (gP (↑(fk+1):Int) (L.getD (2*k) 0) (L.getD (2*k+1) 0))))))],T:=16}) [yB (ai (IntKind.i64.wrap ((↑fk:Int)+1))=ai (↑(fk+1):Int)) (dG ah ah),yB (ai (IntKind.i64.wrap ((2:Int)*(↑k:Int)))=ai (↑(2*k):Int)) (dG ah ah),yR (↑(2*k):Int),yB (2*k<(aj L).length) (by simp only [aA];omega),yB ((aj L)[2*k]?=some (aw (L.getD (2*k) 0))) (dI ah),yB (ai (IntKind.i64.wrap ((2:Int)*(↑k:Int)))=ai (↑(2*k):Int)) (dG ah ah),yB (ai (IntKind.i64.wrap ((↑(2*k):Int)+1))=ai (↑(2*k+1):Int)) (dG ah ah),yR (↑(2*k+1):Int),yB (2*k+1<(aj L).length) (by simp only [aA];omega),yB ((aj L)[2*k+1]?=some (aw (L.getD (2*k+1) 0))) (dI ah),yI (pb (↑(fk+1):Int) (L.getD (2*k) 0) (L.getD (2*k+1) 0)),yR (↑k:Int),yB (k<(aj (cR m L2 k)).length) (by simp only [aA];omega),yB ((aj (cR m L2 k)).set k (aw (gP (↑(fk+1):Int) (L.getD (2*k) 0) (L.getD (2*k+1) 0)))=aj ((cR m L2 k).set k (gP (↑(fk+1):Int) (L.getD (2*k) 0) (L.getD (2*k+1) 0)))) (kt _ _ _),yB (k+1≤(aj (cR m L2 k)).length) (by simp only [aA];omega)]<|aM<|ak<|zX (yH [(0,yV (ai ((↑k:Int)+1)))]) [yN ((↑k:Int)+1)] (aJ (k+1) ah ah (eK [.ae [40,7,0,1,2,4,6,41] [11,38]] [] [38] [yB (aj ((cR m L2 k).set k (gP (↑(fk+1):Int) (L.getD (2*k) 0) (L.getD (2*k+1) 0)))=aj (cR m L2 (k+1))) (congrArg aj (by rw [←e2];exact e1))]))
 ·have e:k=m:=ah
  subst e
  have e1:=kN Cx
  rw [e1]
  refine zE 4<|a7<|aO<|bn<|ak<|zX {} []<|aM<|ak<|zX (yH [(1,yV (ai ((↑fk:Int)+1)))]) [yN ((↑fk:Int)+1)] ?_
  exact ⟨rfl,bS.of [.vo 38 11,.ae [0,1,2,4,6] [11]] (s1:=AS.mk [(0,.val yv),(1,.ptr [ai (h:Int)] 0),(2,.ptr [aw seed] 0),(4,.ref 11),(6,ai ((fk:Int)+1))] [(11,Row.mk 1 true false (aj L2))]) bh (by unfold xM;rw [show ((fk+1:Nat):Int)=(fk:Int)+1 by omega])⟩
theorem E6 {P:Program} {x y z B:Code} {Q Q':Exit->Act->World->Prop} {K:Act->World->Prop} {a:Act} {w:World} (h:BM P (.seq x (.seq y (.seq z .skip))) Q a w) (hQ:∀e a w,Q e a w->e= .normal∧K a w) (hB:∀a w,K a w->B.wp P Q' a w):(Code.seq x (.seq y (.seq z B))).wp P Q' a w:=by
 refine wp_seq (wp_mono (kx x _ _ _ h) fun e a w he=>?_)
 cases e with
 | normal =>
  refine wp_seq (wp_mono (kx y _ _ _ he) fun e a w he=>?_)
  cases e with
  | normal =>
   refine wp_seq (wp_mono (kx z _ _ _ he) fun e a w he=>?_)
   cases e with
   | normal=>exact hB _ _ (hQ _ _ _ he).2
   | _=>cases (hQ _ _ _ he).1
  | _=>cases (hQ _ _ _ he).1
 | _=>cases (hQ _ _ _ he).1
def lr:Code->List Oper
 | .region _ ops _=>ops.toList
 | _=>[]
theorem KL (yv:Value) (seed:UInt64) (h fk:Nat) (l:List UInt64):j0 Tryz.prog 63 (lr (il (il (ft (ft (dH (dH (dH (dt Tryz.f142))))))))) [] ((lr (il (il (ft (ft (dH (dH (dH (dt Tryz.f142))))))))).take 3) 0 (xM yv seed h fk l) =
  some (AS.mk [(26,.ref 11),(25,ai (fk:Int)),(24,.val yv),(0,.val yv),(1,.ptr [ai (h:Int)] 0),(2,.ptr [aw seed] 0),(4,.ref 11),(6,ai (fk:Int))] [(11,Row.mk 1 true false (aj l))],[]):=by kernel_rfl
theorem HS (yv:Value) (seed:UInt64) (h fk:Nat) (l:List UInt64):j0 Tryz.prog 63 (lr (il (il (ft (ft (dH (dH (dH (dt Tryz.f142))))))))) [] ((lr (il (il (ft (ft (dH (dH (dH (dt Tryz.f142))))))))).drop 4) 4 (lp (AS.mk [(26,.ref 11),(25,ai (fk:Int)),(24,.val yv),(0,.val yv),(1,.ptr [ai (h:Int)] 0),(2,.ptr [aw seed] 0),(4,.ref 11),(6,ai (fk:Int))] [(11,Row.mk 1 true false (aj l))]) 27 (ao true)) =
  some (AS.mk [(32,ao (decide ((fk:Int)<(h:Int)))),(31,ao (decide ((fk:Int)<(h:Int)))),(30,ai (h:Int)),(29,ai (fk:Int)),(28,ao true),(27,ao true),(26,.ref 11),(25,ai (fk:Int)),(24,.val yv),(0,.val yv),(1,.ptr [ai (h:Int)] 0),(2,.ptr [aw seed] 0),(4,.ref 11),(6,ai (fk:Int))] [(11,Row.mk 1 true false (aj l))],[true=true,true=true,true=true,true=true]):=by kernel_rfl
theorem HT (yv:Value) (seed:UInt64) (h fk:Nat) (l:List UInt64):j0 Tryz.prog 63 (lr (il (il (ft (ft (dH (dH (dH (dt Tryz.f142))))))))) [(5,{g:=false}),(6,{g:=false}),(7,{g:=false}),(8,{b:=false})] ((lr (il (il (ft (ft (dH (dH (dH (dt Tryz.f142))))))))).drop 4) 4 (lp (AS.mk [(26,.ref 11),(25,ai (fk:Int)),(24,.val yv),(0,.val yv),(1,.ptr [ai (h:Int)] 0),(2,.ptr [aw seed] 0),(4,.ref 11),(6,ai (fk:Int))] [(11,Row.mk 1 true false (aj l))]) 27 (ao false)) =
  some (AS.mk [(32,ao false),(31,.val (.tuple #[])),(30,.val (.tuple #[])),(29,.val (.tuple #[])),(28,ao false),(27,ao false),(26,.ref 11),(25,ai (fk:Int)),(24,.val yv),(0,.val yv),(1,.ptr [ai (h:Int)] 0),(2,.ptr [aw seed] 0),(4,.ref 11),(6,ai (fk:Int))] [(11,Row.mk 1 true false (aj l))],[false=false,false=false,false=false,false=false]):=by kernel_rfl
theorem It.val {n:Nat} {J:(Nat->Prop)->(Nat->Prop)->World->Prop} {s:AS} {a:Act} {w:World} {x:Operand} {v:Value} (h:It n J s a w) (hx:bp s x= .val v):a.eval x=v:=by
 obtain ⟨wb,Z,φ,ms,h1,-⟩:=h
 exact bL (hx ▸ h1.bp x)
theorem Az (seed:UInt64) (h:Nat) (hh:h≤4):w7 Tryz.prog 142 [.ptr [ai (h:Int)] 0,.ptr [aw seed] 0] (fun i=>[ai (i:Int),.sl 1 (aj (kK seed h i))]) (h+1):=by
 refine w7.pV (n:=63) Tryz.func142 (c:=(dt Tryz.f142)) bh bh bh (by simp) ?_
 intro l J X hJ hX hy a w hit
 have eb:(dt Tryz.f142)= .seq (il (dt Tryz.f142)) (.seq (il (dH (dt Tryz.f142))) (.seq (il (dH (dH (dt Tryz.f142)))) (dH (dH (dH (dt Tryz.f142)))))):=by kernel_rfl
 have eB:dH (dH (dH (dt Tryz.f142)))= .block 2 (.loop (.seq (.seq (.region 7 (lr (il (il (ft (ft (dH (dH (dH (dt Tryz.f142))))))))).toArray false) (.cond (.tmp 32) .skip (.exit 2))) (dH (ft (ft (dH (dH (dH (dt Tryz.f142))))))))):=by kernel_rfl
 have RJ:=It.S6 hit (hJ 0) (KK (.func (.yield l) #[] #[]) seed h hh)
 rw [eb]
 refine E6 (K:=It 63 (J 0) (xM (.func (.yield l) #[] #[]) seed h 0 (kK seed h 0))) RJ (fun e a w ⟨s',⟨he,hw⟩,hi⟩=>⟨he,hi.oR (hJ 0) hw⟩) fun a w Ow=>?_
 rw [eB]
 refine wp_block (Ej (fun k a w=>∃fk,fk≤h∧k=h-fk∧It 63 (J fk) (xM (.func (.yield l) #[] #[]) seed h fk (kK seed h fk)) a w) h ⟨0,ah,ah,Ow⟩ ?_)
 rintro k a w ⟨fk,RY,rfl,hit⟩
 refine wp_seq (wp_seq ?_)
 refine GM (d:=27) (l1:=(lr (il (il (ft (ft (dH (dH (dH (dt Tryz.f142))))))))).take 3) (o:=((lr (il (il (ft (ft (dH (dH (dH (dt Tryz.f142))))))))).drop 3).headD default) (l2:=(lr (il (il (ft (ft (dH (dH (dH (dt Tryz.f142))))))))).drop 4) (y:=.tmp 24) (xs:= #[.tmp 25,.tmp 26]) (ts:= #[3,27]) bh bh bh bh (by rintro ⟨_,_,he,_⟩;rcases he with he|he<;>cases he) bh bh<|hit.ops (hJ fk) (KL _ seed h fk _) trivial fun a1 w1 QT=>⟨l,QT.val (x:=.tmp 24) bh,?_⟩
 refine It.yield (d:=27) (xs:=[.tmp 25,.tmp 26]) hJ hX (by decide) hy QT ah (s1:=AS.mk [(26,.sl 1 (aj (kK seed h fk))),(25,ai (fk:Int)),(24,.val (.func (.yield l) #[] #[])),(0,.val (.func (.yield l) #[] #[])),(1,.ptr [ai (h:Int)] 0),(2,.ptr [aw seed] 0),(4,.sl 1 (aj (kK seed h fk))),(6,ai (fk:Int))] []) bh bh bh _ (fun w2 dz=>?_) (fun w2 dz=>?_)
 ·refine dz.ops (hJ (fk+1)) (HS _ seed h fk _) ⟨rfl,rfl,rfl,rfl,trivial⟩ fun a3 w3 Ov=>?_
  have hv:=Ov.val (x:=.tmp 32) (v:=.bool (decide ((fk:Int)<(h:Int)))) bh
  refine wp_cond_split hv (fun ht=>?_) (fun hf=>?_)
  ·have dh:fk<h:=by have:=of_decide_eq_true ht;omega
   refine wp_skip ?_
   have UX:=Ov.oR (hJ (fk+1)) (s':=xM (.func (.yield l) #[] #[]) seed h fk (kK seed h fk)) (bS.of [.ae [0,1,2,4,6] [11]] bh rfl)
   refine wp_mono (kx _ _ _ _ (It.S6 UX (hJ (fk+1)) (HU _ seed h fk hh dh))) fun e a5 w5 ⟨s',⟨he,hw⟩,UW⟩=>?_
   subst he
   exact ⟨h-(fk+1),ah,fk+1,ah,rfl,UW.oR (hJ (fk+1)) hw⟩
  ·have uG:fk=h:=by have:=of_decide_eq_false hf;omega
   subst uG
   refine wp_exit ?_
   exact ⟨.inl rfl,_,.inl Ov⟩
 ·refine dz.ops hX (HT _ seed h fk _) ⟨rfl,rfl,rfl,rfl,trivial⟩ fun a3 w3 Ov=>?_
  have hv:=Ov.val (x:=.tmp 32) (v:=.bool false) bh
  refine wp_cond_false hv (wp_exit ?_)
  exact ⟨.inl rfl,_,.inr Ov⟩
end Go.Proofs.YtjgbhhnghedgdaaGreatDoor
