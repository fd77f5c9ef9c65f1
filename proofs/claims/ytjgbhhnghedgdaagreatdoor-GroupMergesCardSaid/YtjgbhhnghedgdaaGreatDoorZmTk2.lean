import Derived.Test.YtjgbhhnghedgdaaGreatDoorZmCb3
set_option linter.all false
namespace Go.Proofs.YtjgbhhnghedgdaaGreatDoor
open Go.RowKit
set_option maxRecDepth 100000
set_option maxHeartbeats 4000000
def Ps (h:Int):Int:=if bB h then 9 else 0
def Km (h:Int):Int:=if bB h then 0 else h
def Kk (seed:UInt64) (h:Int):UInt64:=if bB h then 0 else gf seed h.toNat 0
theorem vX (seed:UInt64) (h:Int):bC Tryz.prog 85 [aw seed,ai h] (.bk [.agg [ai (Km h),aw (Kk seed h)],ai (Ps h)]):=by
 by_cases hb:bB h
 ·have e1:Ps h=9:=if_pos hb
  have e2:Km h=0:=if_pos hb
  have e3:Kk seed h=0:=if_pos hb
  refine zO Tryz.func85 15<|zq<|zS<|zP 1 [yH [(1,yV (ao (!decide (bB h))))]] [.aa [8,5,4,0,1] [4]] [yI (cm h)]<|dm 8 (!!decide (bB h)) (by simp_all)<|bf.jZ 1 [{}] [.aa [5,8,4,0,1] [4]] bt (s':=AS.mk [(5,ai 9),(8,ao (!!decide (bB h))),(4,AV.addr 4 0),(0,aw seed),(1,ai h)] [(4,Row.mk 1 false true [ai 0,cN])]) (C:=[2≤2]) bt ⟨ah,trivial⟩<|dd (zV [yJ 0 (Km h) (by rw [e2]),yK 0 (wv (Kk seed h)) (by rw [e3];rfl),yJ 9 (Ps h) (by rw [e1])])
 ·have e1:Ps h=0:=if_neg hb
  have e2:Km h=h:=if_neg hb
  have e3:Kk seed h=gf seed h.toNat 0:=if_neg hb
  have rF:0≤h∧h≤4:=by unfold bB at hb;omega
  rw [e1,e2,e3]
  obtain ⟨k,rfl⟩:=Int.eq_ofNat_of_zero_le rF.1
  have hn:=sg seed k 0 ah (Nat.two_pow_pos _)
  rw [Int.toNat_natCast]
  generalize gf seed k 0=r at *
  refine zO Tryz.func85 15<|zq<|zS<|zP 1 [yH [(1,yV (ao (!decide (bB (↑k:Int)))))]] [.aa [8,5,4,0,1] [4]] [yI (cm ((↑k:Int)))]<|bj 8 (!!decide (bB (↑k:Int))) (by simp_all)<|aW<|zP 1 [yH [(3,yV (aw r))]] [.aa [5,8,4,0,1] [4]] [yI hn,yL 2 2]<|zR (bL)
theorem iC (leaf:Int) (h:Nat) (hh:h≤4):bC Tryz.prog 95 [ai leaf,ai h] (ao (decide (leaf<0∨((2^h:Nat):Int)≤leaf))):=by
 rcases (ah:h=0∨h=1∨h=2∨h=3∨h=4) with rfl|rfl|rfl|rfl|rfl
 ·by_cases h1:leaf<0
  ·refine zO Tryz.func95 13<|zP 2 [{},{}] [.aa [4,0,1] []] (yM 5 (yT (leaf<0)))<|zR (zV [yB (Value.bool true=Value.bool (decide (leaf<0∨(↑((2:Nat)^0):Int)≤leaf))) (by simp [h1])])
  ·refine zO Tryz.func95 13<|zP 2 [{},yH ([(7,{b:=false})]++yg [3,4,5,6])] [.aa [4,0,1] []] (yM 3 (yF (leaf<0))++ [yO ((0:Int)≤(↑(0:Nat):Int))]++yM 2 (yF (leaf<0)))<|zR (zV [yB (Value.bool (decide (leaf≥IntKind.i64.wrap ((1:Int)*(2:Int)^min (↑(0:Nat):Int).toNat IntKind.i64.bits)))=Value.bool (decide (leaf<0∨(↑((2:Nat)^0):Int)≤leaf))) (by simp [h1];rfl)])
 ·by_cases h1:leaf<0
  ·refine zO Tryz.func95 13<|zP 2 [{},{}] [.aa [4,0,1] []] (yM 5 (yT (leaf<0)))<|zR (zV [yB (Value.bool true=Value.bool (decide (leaf<0∨(↑((2:Nat)^1):Int)≤leaf))) (by simp [h1])])
  ·refine zO Tryz.func95 13<|zP 2 [{},yH ([(7,{b:=false})]++yg [3,4,5,6])] [.aa [4,0,1] []] (yM 3 (yF (leaf<0))++ [yO ((0:Int)≤(↑(1:Nat):Int))]++yM 2 (yF (leaf<0)))<|zR (zV [yB (Value.bool (decide (leaf≥IntKind.i64.wrap ((1:Int)*(2:Int)^min (↑(1:Nat):Int).toNat IntKind.i64.bits)))=Value.bool (decide (leaf<0∨(↑((2:Nat)^1):Int)≤leaf))) (by simp [h1];rfl)])
 ·by_cases h1:leaf<0
  ·refine zO Tryz.func95 13<|zP 2 [{},{}] [.aa [4,0,1] []] (yM 5 (yT (leaf<0)))<|zR (zV [yB (Value.bool true=Value.bool (decide (leaf<0∨(↑((2:Nat)^2):Int)≤leaf))) (by simp [h1])])
  ·refine zO Tryz.func95 13<|zP 2 [{},yH ([(7,{b:=false})]++yg [3,4,5,6])] [.aa [4,0,1] []] (yM 3 (yF (leaf<0))++ [yO ((0:Int)≤(↑(2:Nat):Int))]++yM 2 (yF (leaf<0)))<|zR (zV [yB (Value.bool (decide (leaf≥IntKind.i64.wrap ((1:Int)*(2:Int)^min (↑(2:Nat):Int).toNat IntKind.i64.bits)))=Value.bool (decide (leaf<0∨(↑((2:Nat)^2):Int)≤leaf))) (by simp [h1];rfl)])
 ·by_cases h1:leaf<0
  ·refine zO Tryz.func95 13<|zP 2 [{},{}] [.aa [4,0,1] []] (yM 5 (yT (leaf<0)))<|zR (zV [yB (Value.bool true=Value.bool (decide (leaf<0∨(↑((2:Nat)^3):Int)≤leaf))) (by simp [h1])])
  ·refine zO Tryz.func95 13<|zP 2 [{},yH ([(7,{b:=false})]++yg [3,4,5,6])] [.aa [4,0,1] []] (yM 3 (yF (leaf<0))++ [yO ((0:Int)≤(↑(3:Nat):Int))]++yM 2 (yF (leaf<0)))<|zR (zV [yB (Value.bool (decide (leaf≥IntKind.i64.wrap ((1:Int)*(2:Int)^min (↑(3:Nat):Int).toNat IntKind.i64.bits)))=Value.bool (decide (leaf<0∨(↑((2:Nat)^3):Int)≤leaf))) (by simp [h1];rfl)])
 ·by_cases h1:leaf<0
  ·refine zO Tryz.func95 13<|zP 2 [{},{}] [.aa [4,0,1] []] (yM 5 (yT (leaf<0)))<|zR (zV [yB (Value.bool true=Value.bool (decide (leaf<0∨(↑((2:Nat)^4):Int)≤leaf))) (by simp [h1])])
  ·refine zO Tryz.func95 13<|zP 2 [{},yH ([(7,{b:=false})]++yg [3,4,5,6])] [.aa [4,0,1] []] (yM 3 (yF (leaf<0))++ [yO ((0:Int)≤(↑(4:Nat):Int))]++yM 2 (yF (leaf<0)))<|zR (zV [yB (Value.bool (decide (leaf≥IntKind.i64.wrap ((1:Int)*(2:Int)^min (↑(4:Nat):Int).toNat IntKind.i64.bits)))=Value.bool (decide (leaf<0∨(↑((2:Nat)^4):Int)≤leaf))) (by simp [h1];rfl)])
theorem K_ (seed:UInt64) (h:Int):bC Tryz.prog 41 [aw seed,ai h] (.agg [ai (Km h),aw (Kk seed h)]):=by
 refine zO Tryz.func41 14<|zP 3 [{},yH [(2,yV (AV.bk [AV.agg [ai (Km h),aw (Kk seed h)],ai (Ps h)]))],{}] [.aa [5,4,0,1] [4,5]] [yI (vX seed h),yL 2 2,yL 2 2]<|zR (zV [yR (Value.int .i64 (Km h)),yR (Value.int .u64 (wv (Kk seed h)))])
def dJ (k:Nat):Mem:=⟨[109,u8 (48+(k:Int))],4,Kk (300+u64 k) 4,0⟩
theorem CW (i:Int):bC Tryz.prog 18 [ai i] (.agg (aG (dJ (fL i 10)))):=by
 have hm:=tj i (n:=10) ah
 have p2:Km 4=4:=by decide
 refine zO Tryz.func18 16<|zP 2 [{},{hs:=[(1,yV (ai (↑(fL i (10:Int)):Int))),(2,yV (ai ((48:Int)+(↑(fL i (10:Int)):Int)))),(3,yV (ab (u8 ((48:Int)+(↑(fL i (10:Int)):Int))))),(4,yV (AV.arr (ag [u8 ((48:Int)+(↑(fL i (10:Int)):Int))]))),(5,yV (AV.val (Value.string (ByteArray.mk #[u8 ((48:Int)+(↑(fL i (10:Int)):Int))])))),(8,yV (ai (↑(fL i (10:Int)):Int))),(9,yV (aw (u64 (↑(fL i (10:Int)):Int)))),(10,yV (aw (300+u64 (↑(fL i (10:Int)):Int)))),(11,yV (AV.agg [ai (Km (4:Int)),aw (Kk (300+u64 (↑(fL i (10:Int)):Int)) (4:Int))]))],T:=12}] [.aa [2,0] [2]] [yI (ti i ((10:Int)) ah ah),yN ((48:Int)+(↑(fL i (10:Int)):Int)),yI (i3 ((48:Int)+(↑(fL i (10:Int)):Int))),yR [ab (u8 ((48:Int)+(↑(fL i (10:Int)):Int)))],yR (ag [u8 ((48:Int)+(↑(fL i (10:Int)):Int))]),yB ((ByteArray.mk #[109]).size+(ByteArray.mk #[u8 ((48:Int)+(↑(fL i (10:Int)):Int))]).size≤9223372036854775807) (Nat.le_of_ble_eq_true rfl),yI (ti i ((10:Int)) ah ah),yI (ba (↑(fL i (10:Int)):Int)),yR (aw (300+u64 (↑(fL i (10:Int)):Int))),yI (K_ (300+u64 (↑(fL i (10:Int)):Int)) ((4:Int))),yL 4 4]<|zR (zV [yR (Value.string (ByteArray.mk (dJ (fL i (10:Int))).name.toArray)),yR (Value.int .i64 (Km (4:Int))),yR (Value.int .u64 (wv (dJ (fL i (10:Int))).r)),yR (Value.int .u64 0)])
theorem Px {i:Nat} (h:i<10):fL (i:Int) 10=i:=by
 unfold fL
 rw [Int.emod_eq_of_lt ah ah,Int.emod_eq_of_lt ah ah,Int.toNat_natCast]
theorem fP (i:Nat) (h:i<10):bC Tryz.prog 18 [ai i] (.agg (aG (dJ i))):=by
 have:=CW i
 rwa [Px h] at this
def S_ (g:gp):List AV:=[ai g.aA,aw g.head,ai g.br,.own 4 (ae aG g.al),.own 7 (ae a_ g.aL)]
theorem h_ (h:Int) (r:UInt64):bC Tryz.prog 43 [.agg [ai h,aw r]] (.bk [.own 1 (ag (dh h r)),ai (e_ h)]):=by
 have hw:(words [r]).length=8:=by rw [dW];rfl
 by_cases h1:bB h
 ·have e:e_ h=9:=by rw [e_,if_pos h1]
  have ed:dh h r= []:=by rw [dh,if_pos h1]
  refine zO Tryz.func43 16<|zq<|zS<|zQ 1 [yH [(2,yV (ao (decide (bB h))))]] [yI (hY h)]<|gN 6 (bB h)<|zq<|dd (zV [yB (ag (dh h r)= []) (by rw [ed];rfl),yJ 9 (e_ h) (by rw [e])])
 ·have e:e_ h=0:=by rw [e_,if_neg h1]
  have ed:dh h r=u8 h::words [r]:=by rw [dh,if_neg h1]
  refine zO Tryz.func43 16<|zq<|zS<|zQ 1 [yH [(2,yV (ao (decide (bB h))))]] [yI (hY h)]<|dq 6 (bB h)<|aW<|zS<|QU 8 [3] [(2,yV (ab (u8 h))),(3,yV (AV.arr (ag [u8 h]))),(6,yV (AV.arr (aj [r]))),(7,yV (AV.own 1 (ag (words [r])))),(8,yV (AV.arr (ag ([u8 h]++words [r]))))] [yI (i3 h),yR [ab (u8 h)],yI (aP [u8 h]),yR [aw r],yI (lR [r] (by simp only [List.length_cons,List.length_nil];omega)),yI (aP (words [r])),yR (ag ([u8 h]++words [r])),yL 9 140737488355328]<|ak<|bf.r9 [.aa [3,2,6,1,0] [15,1]] bt<|zR (zV [yB (ag ([u8 h]++words [r])=ag (dh h r)) (by rw [ed];rfl),yJ 0 (e_ h) (by rw [e])])
theorem gH (h:Int) (r:UInt64):bC Tryz.prog 47 [.agg [ai h,aw r]] (.bk [.own 1 (ag (dh h r)),ai (e_ h)]):=by
 have hw:(words [r]).length=8:=by rw [dW];rfl
 by_cases h1:bB h
 ·have e:e_ h=9:=by rw [e_,if_pos h1]
  have ed:dh h r= []:=by rw [dh,if_pos h1]
  refine zO Tryz.func47 17<|zq<|zS<|zP 1 [yH [(2,yV (ao (!decide (bB h))))]] [.aa [7,3,2,1,0] [1]] [yI (cm h)]<|dm 7 (!!decide (bB h)) (by simp_all)<|zq<|dd (zV [yB (ag (dh h r)= []) (by rw [ed];rfl),yJ 9 (e_ h) (by rw [e])])
 ·have e:e_ h=0:=by rw [e_,if_neg h1]
  have ed:dh h r=u8 h::words [r]:=by rw [dh,if_neg h1]
  refine zO Tryz.func47 17<|zq<|zS<|zP 1 [yH [(2,yV (ao (!decide (bB h))))]] [.aa [7,3,2,1,0] [1]] [yI (cm h)]<|bj 7 (!!decide (bB h)) (by simp_all)<|aW<|zS<|QU 8 [3] [(2,yV (ab (u8 h))),(3,yV (AV.arr (ag [u8 h]))),(6,yV (AV.arr (aj [r]))),(7,yV (AV.own 1 (ag (words [r])))),(8,yV (AV.arr (ag ([u8 h]++words [r]))))] [yI (i3 h),yR [ab (u8 h)],yI (aP [u8 h]),yR [aw r],yI (dA [r] (by simp only [List.length_cons,List.length_nil];omega)),yI (aP (words [r])),yR (ag ([u8 h]++words [r])),yL 9 140737488355328]<|ak<|bf.r9 [.aa [3,2,7,1,0] [16,1]] bt<|zR (zV [yB (ag ([u8 h]++words [r])=ag (dh h r)) (by rw [ed];rfl),yJ 0 (e_ h) (by rw [e])])
structure gb where
 name:List UInt8
 leaf:Int
 ga:List UInt64
 path:List UInt64
def aU (v:gb):List AV:=[cQ v.name,ai v.leaf,.sl 1 (aj v.ga),.sl 1 (aj v.path)]
structure dP where
 aA:Int
 prev:UInt64
 kind:Int
 name:List UInt8
 kh:Int
 kr:UInt64
 br:Int
 dep:np
 bY:UInt64
 target:UInt64
 aq:List gb
def aI (e:dP):List AV:=[ai e.aA,aw e.prev,ai e.kind,cQ e.name,ai e.kh,aw e.kr,ai e.br,aw e.dep.bY,aw e.dep.peer,.sl 1 (ag e.dep.box),.sl 1 (ae ax e.dep.af),.sl 1 (aj e.dep.ay),ai e.dep.need,aw e.dep.target,aw e.bY,aw e.target,.sl 4 (ae aU e.aq)]
theorem eE (x:List UInt8) (hx:x.length≤1000):bC Tryz.prog 42 [cQ x] (ai (eh x)):=by
 by_cases c1:x.length<1
 ·have e:=qg (.inl c1)
  refine zO Tryz.func42 14<|zq<|zS<|zP 1 [yH [(1,yV (ai (↑x.length:Int)))]] [.aa [10,2,0] []] ([yR (ai (↑x.length:Int))]++yM 4 (yT ((↑x.length:Int)<1)))<|zT 10<|zq<|dd (zV [yJ 9 (eh x) (by rw [e])])
 by_cases c3:32<x.length
 ·have e:=qg (.inr c3)
  refine zO Tryz.func42 14<|zq<|zS<|zP 1 [yH ([(1,yV (ai (↑x.length:Int))),(5,{av:=some (ai (↑x.length:Int)),g:=false}),(7,{b:=false})]++yg [4,6])] [.aa [10,2,0] []] ([yR (ai (↑x.length:Int))]++yM 2 (yF ((↑x.length:Int)<1))++ [yR (ai (↑x.length:Int))]++yM 2 (yF ((↑x.length:Int)<1)))<|gN 10 ((↑x.length:Int)>32)<|zq<|dd (zV [yJ 9 (eh x) (by rw [e])])
 by_cases c2:Lib.validD x=false
 ·have e:=ya ah c2
  refine zO Tryz.func42 14<|zq<|zS<|zP 1 [yH ([(1,yV (ai (↑x.length:Int))),(5,{av:=some (ai (↑x.length:Int)),g:=false}),(7,{b:=false})]++yg [4,6])] [.aa [10,2,0] []] ([yR (ai (↑x.length:Int))]++yM 2 (yF ((↑x.length:Int)<1))++ [yR (ai (↑x.length:Int))]++yM 2 (yF ((↑x.length:Int)<1)))<|dq 10 ((↑x.length:Int)>32)<|aW<|zS<|zP 1 [yH [(1,yV (ao (Lib.validD x))),(2,yV (ao true))]] [.aa [13,10,2,0] []] [yI (kp x ah),yB (ao (!Lib.validD x)=ao true) (by rw [c2];rfl)]<|zT 13<|zq<|dd (zV [yJ 6 (eh x) (by rw [e])])
 have c4:Lib.validD x=true:=by simpa using c2
 have e:=EI ah c4
 refine zO Tryz.func42 14<|zq<|zS<|zP 1 [yH ([(1,yV (ai (↑x.length:Int))),(5,{av:=some (ai (↑x.length:Int)),g:=false}),(7,{b:=false})]++yg [4,6])] [.aa [10,2,0] []] ([yR (ai (↑x.length:Int))]++yM 2 (yF ((↑x.length:Int)<1))++ [yR (ai (↑x.length:Int))]++yM 2 (yF ((↑x.length:Int)<1)))<|dq 10 ((↑x.length:Int)>32)<|aW<|zS<|zP 1 [yH [(1,yV (ao (Lib.validD x))),(2,yV (ao false))]] [.aa [13,10,2,0] []] [yI (kp x ah),yB (ao (!Lib.validD x)=ao false) (by rw [c4];rfl)]<|zF 13<|aW<|zq<|zR (zV [yJ 0 (eh x) (by rw [e])])
def eY (m:Mem):Int:=if eh m.name≠0 then eh m.name else if e_ m.h≠0 then e_ m.h else if m.used≠0 then 18 else 0
def bH (m:Mem):gp:=if eY m=0 then ⟨0,hash 16 (dh m.h m.r++m.name),1,[m],[]⟩ else ⟨0,0,0,[],[]⟩
instance:Inhabited gp:=⟨⟨0,0,0,[],[]⟩⟩
theorem nH (h:Int) (r:UInt64):(dh h r).length≤9:=by
 unfold dh
 split
 ·exact Nat.zero_le _
 ·have:(words [r]).length=8:=by rw [dW];rfl
  rw [List.length_cons];omega
theorem B3 (a b:List UInt8) (h:a.length+b.length≤1000000):bC Tryz.prog 45 [.sl 1 [.sl 1 (ag a),.sl 1 (ag b)]] (.own 1 (ag (a++b))):=by
 have:=D5 [a,b] (by simp [fv];omega) (by simp)
 rw [show [a,b].flatten=a++b by simp] at this
 exact this
theorem BF (m:Mem) (hm:m.name.length≤1000):bC Tryz.prog 19 [.agg (aG m)] (.bk [.agg (S_ (bH m)),ai (eY m)]):=by
 have hz:=qV m.name hm
 by_cases h1:eh m.name=0
 case neg =>
  have e1:eY m=eh m.name:=if_pos h1
  have e2:bH m=⟨0,0,0,[],[]⟩:=by unfold bH;rw [if_neg ah]
  refine zO Tryz.func19 40<|zq<|zS<|zP 2 [yH [(2,yV (ai (eh m.name)))],yH [(1,yV (ao true))]] [.aa [12,4,3,2,1,0] [2,1]] [yI (eE m.name hm),yB (ao (eh m.name != (0:Int))=ao true) (by simp [h1])]<|zT 12<|zP 1 [{}] [.aa [3,12,4,2,1,0] [2,1]] [yL 5 5]<|dd (zV [yJ 0 ((bH m).aA) (by rw [e2]),yK 0 (wv (bH m).head) (by rw [e2];rfl),yJ 0 ((bH m).br) (by rw [e2]),yB (ae aG (bH m).al= []) (by rw [e2];rfl),yB (ae a_ (bH m).aL= []) (by rw [e2];rfl),yJ (eh m.name) (eY m) (by rw [e1])])
 by_cases h2:e_ m.h=0
 case neg =>
  have e1:eY m=e_ m.h:=by unfold eY;rw [if_neg ah,if_pos h2]
  have e2:bH m=⟨0,0,0,[],[]⟩:=by unfold bH;rw [if_neg ah]
  refine zO Tryz.func19 40<|zq<|zS<|zP 2 [yH [(2,yV (ai (eh m.name)))],yH [(1,yV (ao false))]] [.aa [12,4,3,2,1,0] [2,1]] [yI (eE m.name hm),yB (ao (eh m.name != (0:Int))=ao false) (by simp [h1])]<|zF 12<|aW<|zP 1 [yH [(2,yV (AV.bk [AV.own 1 (ag (dh m.h m.r)),ai (e_ m.h)]))]] [.aa [6,5,12,4,3,2,1,0] [1018,2,1]] [yI (h_ m.h m.r),yI (aP (dh m.h m.r))]<|zS<|zQ 1 [yH [(1,yV (ao true))]] [yB (ao (e_ m.h != (0:Int))=ao true) (by simp [h2])]<|zT 22<|zP 1 [{}] [.aa [3,22,6,5,12,4,2,1,0] [2,1018,1]] [yL 5 5]<|dd (zV [yJ 0 ((bH m).aA) (by rw [e2]),yK 0 (wv (bH m).head) (by rw [e2];rfl),yJ 0 ((bH m).br) (by rw [e2]),yB (ae aG (bH m).al= []) (by rw [e2];rfl),yB (ae a_ (bH m).aL= []) (by rw [e2];rfl),yJ (e_ m.h) (eY m) (by rw [e1])])
 by_cases h3:m.used=0
 case neg =>
  have e1:eY m=18:=by unfold eY;rw [if_neg ah,if_neg ah,if_pos h3]
  have e2:bH m=⟨0,0,0,[],[]⟩:=by unfold bH;rw [if_neg ah]
  refine zO Tryz.func19 40<|zq<|zS<|zP 2 [yH [(2,yV (ai (eh m.name)))],yH [(1,yV (ao false))]] [.aa [12,4,3,2,1,0] [2,1]] [yI (eE m.name hm),yB (ao (eh m.name != (0:Int))=ao false) (by simp [h1])]<|zF 12<|aW<|zP 1 [yH [(2,yV (AV.bk [AV.own 1 (ag (dh m.h m.r)),ai (e_ m.h)]))]] [.aa [6,5,12,4,3,2,1,0] [1018,2,1]] [yI (h_ m.h m.r),yI (aP (dh m.h m.r))]<|zS<|zQ 1 [yH [(1,yV (ao false))]] [yB (ao (e_ m.h != (0:Int))=ao false) (by simp [h2])]<|zF 22<|aW<|zS<|zP 1 [yH [(2,yV (ao (m.used != 0)))]] [.aa [27,22,6,5,12,4,3,2,1,0] [1018,2,1]] [yI (cJ m.used 0)]<|dm 27 (m.used != 0) (by simp_all)<|zP 1 [{}] [.aa [3,27,22,6,5,12,4,2,1,0] [2,1018,1]] [yL 5 5]<|dd (zV [yJ 0 ((bH m).aA) (by rw [e2]),yK 0 (wv (bH m).head) (by rw [e2];rfl),yJ 0 ((bH m).br) (by rw [e2]),yB (ae aG (bH m).al= []) (by rw [e2];rfl),yB (ae a_ (bH m).aL= []) (by rw [e2];rfl),yJ 18 (eY m) (by rw [e1])])
 have e1:eY m=0:=by unfold eY;rw [if_neg ah,if_neg ah,if_neg (by simp [h3])]
 have e2:bH m=⟨0,hash 16 (dh m.h m.r++m.name),1,[m],[]⟩:=by unfold bH;rw [if_pos e1]
 have hk:=nH m.h m.r
 refine zO Tryz.func19 40<|zq<|zS<|zP 2 [yH [(2,yV (ai (eh m.name)))],yH [(1,yV (ao false))]] [.aa [12,4,3,2,1,0] [2,1]] [yI (eE m.name hm),yB (ao (eh m.name != (0:Int))=ao false) (by simp [h1])]<|zF 12<|aW<|zP 1 [yH [(2,yV (AV.bk [AV.own 1 (ag (dh m.h m.r)),ai (e_ m.h)]))]] [.aa [6,5,12,4,3,2,1,0] [1018,2,1]] [yI (h_ m.h m.r),yI (aP (dh m.h m.r))]<|zS<|zQ 1 [yH [(1,yV (ao false))]] [yB (ao (e_ m.h != (0:Int))=ao false) (by simp [h2])]<|zF 22<|aW<|zS<|zP 1 [yH [(2,yV (ao (m.used != 0)))]] [.aa [27,22,6,5,12,4,3,2,1,0] [1018,2,1]] [yI (cJ m.used 0)]<|bj 27 (m.used != 0) (by simp_all)<|aW<|zP 2 [yH [(5,yV (AV.own 1 (ag (dh m.h m.r++m.name.toArray.toList)))),(6,yV (aw (hash (16:Int) (dh m.h m.r++m.name.toArray.toList))))],{}] [.aa [3,7,27,22,6,5,12,4,2,1,0] [2,38,1]] [yI hz,yI (B3 (dh m.h m.r) m.name.toArray.toList (by simp only [];omega)),yI (aP (dh m.h m.r++m.name.toArray.toList)),yI (nQ ((16:Int)) (dh m.h m.r++m.name.toArray.toList)),yL 5 5]<|zR (zV [yJ 0 ((bH m).aA) (by rw [e2]),yK (wv (hash (16:Int) (dh m.h m.r++m.name.toArray.toList))) (wv (bH m).head) (by rw [e2]),yJ 1 ((bH m).br) (by rw [e2]),yB ((aG m)=ae aG (bH m).al) (by rw [e2];rfl),yB (ae a_ (bH m).aL= []) (by rw [e2];rfl),yJ 0 (eY m) (by rw [e1])])
def Ta (g:gp):List AV:=[ai g.aA,aw g.head,ai g.br,.sl 4 (ae aG g.al),.own 7 (ae a_ g.aL)]
theorem ui (m:Mem) (hm:m.name.length≤1000):bC Tryz.prog 20 [.agg (aG m)] (.bk [.agg (Ta (bH m)),ai (eY m)]):=by
 have hz:=qV m.name hm
 by_cases h1:eh m.name=0
 case neg =>
  have e1:eY m=eh m.name:=if_pos h1
  have e2:bH m=⟨0,0,0,[],[]⟩:=by unfold bH;rw [if_neg ah]
  refine zO Tryz.func20 36<|zq<|zS<|zP 2 [yH [(2,yV (ai (eh m.name)))],yH [(1,yV (ao true))]] [.aa [11,4,3,2,1,0] [2,1]] [yI (fF m.name hm),yB (ao (eh m.name != (0:Int))=ao true) (by simp [h1])]<|zT 11<|zP 1 [{}] [.aa [3,11,4,2,1,0] [2,1]] [yL 5 5]<|dd (zV [yJ 0 ((bH m).aA) (by rw [e2]),yK 0 (wv (bH m).head) (by rw [e2];rfl),yJ 0 ((bH m).br) (by rw [e2]),yB (ae aG (bH m).al= []) (by rw [e2];rfl),yB (ae a_ (bH m).aL= []) (by rw [e2];rfl),yJ (eh m.name) (eY m) (by rw [e1])])
 by_cases h2:e_ m.h=0
 case neg =>
  have e1:eY m=e_ m.h:=by unfold eY;rw [if_neg ah,if_pos h2]
  have e2:bH m=⟨0,0,0,[],[]⟩:=by unfold bH;rw [if_neg ah]
  refine zO Tryz.func20 36<|zq<|zS<|zP 2 [yH [(2,yV (ai (eh m.name)))],yH [(1,yV (ao false))]] [.aa [11,4,3,2,1,0] [2,1]] [yI (fF m.name hm),yB (ao (eh m.name != (0:Int))=ao false) (by simp [h1])]<|zF 11<|aW<|zP 1 [yH [(2,yV (AV.bk [AV.own 1 (ag (dh m.h m.r)),ai (e_ m.h)]))]] [.aa [6,5,11,4,3,2,1,0] [1017,2,1]] [yI (gH m.h m.r),yI (aP (dh m.h m.r))]<|zS<|zQ 1 [yH [(1,yV (ao true))]] [yB (ao (e_ m.h != (0:Int))=ao true) (by simp [h2])]<|zT 21<|zP 1 [{}] [.aa [3,21,6,5,11,4,2,1,0] [2,1017,1]] [yL 5 5]<|dd (zV [yJ 0 ((bH m).aA) (by rw [e2]),yK 0 (wv (bH m).head) (by rw [e2];rfl),yJ 0 ((bH m).br) (by rw [e2]),yB (ae aG (bH m).al= []) (by rw [e2];rfl),yB (ae a_ (bH m).aL= []) (by rw [e2];rfl),yJ (e_ m.h) (eY m) (by rw [e1])])
 by_cases h3:m.used=0
 case neg =>
  have e1:eY m=18:=by unfold eY;rw [if_neg ah,if_neg ah,if_pos h3]
  have e2:bH m=⟨0,0,0,[],[]⟩:=by unfold bH;rw [if_neg ah]
  refine zO Tryz.func20 36<|zq<|zS<|zP 2 [yH [(2,yV (ai (eh m.name)))],yH [(1,yV (ao false))]] [.aa [11,4,3,2,1,0] [2,1]] [yI (fF m.name hm),yB (ao (eh m.name != (0:Int))=ao false) (by simp [h1])]<|zF 11<|aW<|zP 1 [yH [(2,yV (AV.bk [AV.own 1 (ag (dh m.h m.r)),ai (e_ m.h)]))]] [.aa [6,5,11,4,3,2,1,0] [1017,2,1]] [yI (gH m.h m.r),yI (aP (dh m.h m.r))]<|zS<|zQ 1 [yH [(1,yV (ao false))]] [yB (ao (e_ m.h != (0:Int))=ao false) (by simp [h2])]<|zF 21<|aW<|zS<|zP 1 [yH [(2,yV (ao (m.used != 0)))]] [.aa [26,21,6,5,11,4,3,2,1,0] [1017,2,1]] [yI (cJ m.used 0)]<|dm 26 (m.used != 0) (by simp_all)<|zP 1 [{}] [.aa [3,26,21,6,5,11,4,2,1,0] [2,1017,1]] [yL 5 5]<|dd (zV [yJ 0 ((bH m).aA) (by rw [e2]),yK 0 (wv (bH m).head) (by rw [e2];rfl),yJ 0 ((bH m).br) (by rw [e2]),yB (ae aG (bH m).al= []) (by rw [e2];rfl),yB (ae a_ (bH m).aL= []) (by rw [e2];rfl),yJ 18 (eY m) (by rw [e1])])
 have e1:eY m=0:=by unfold eY;rw [if_neg ah,if_neg ah,if_neg (by simp [h3])]
 have e2:bH m=⟨0,hash 16 (dh m.h m.r++m.name),1,[m],[]⟩:=by unfold bH;rw [if_pos e1]
 have hk:=nH m.h m.r
 have Sr:(ag (dh m.h m.r)).length≤9:=by rw [aD];exact hk
 have xf:(ag m.name.toArray.toList).length≤1000:=by rw [aD];exact hm
 refine zO Tryz.func20 36<|zq<|zS<|zP 2 [yH [(2,yV (ai (eh m.name)))],yH [(1,yV (ao false))]] [.aa [11,4,3,2,1,0] [2,1]] [yI (fF m.name hm),yB (ao (eh m.name != (0:Int))=ao false) (by simp [h1])]<|zF 11<|aW<|zP 1 [yH [(2,yV (AV.bk [AV.own 1 (ag (dh m.h m.r)),ai (e_ m.h)]))]] [.aa [6,5,11,4,3,2,1,0] [1017,2,1]] [yI (gH m.h m.r),yI (aP (dh m.h m.r))]<|zS<|zQ 1 [yH [(1,yV (ao false))]] [yB (ao (e_ m.h != (0:Int))=ao false) (by simp [h2])]<|zF 21<|aW<|zS<|zP 1 [yH [(2,yV (ao (m.used != 0)))]] [.aa [26,21,6,5,11,4,3,2,1,0] [1017,2,1]] [yI (cJ m.used 0)]<|bj 26 (m.used != 0) (by simp_all)<|aW<|zS<|wz 7 [3] [(3,{av:=some (AV.arr (ag (dh m.h m.r++m.name.toArray.toList))),b:=false}),(4,yV (aw (hash (16:Int) (dh m.h m.r++m.name.toArray.toList))))] [yB (ag (dh m.h m.r)++ag m.name.toArray.toList=ag (dh m.h m.r++m.name.toArray.toList)) (da _ _),yB (cE (ag m.name.toArray.toList)) (fW _),yO (((ag (dh m.h m.r)).length+(ag m.name.toArray.toList).length)*1≤140737488355328),yI (iA ((16:Int)) (dh m.h m.r++m.name.toArray.toList) (by simp only [List.length_append];omega)),yR (AV.agg (aG m)),yR (AV.sl 4 (aG m)),yL 5 5]<|ak<|bf.r9 [.aa [3,26,21,6,11,4,2,1,0] [2,1]] bt<|zR (zV [yJ 0 ((bH m).aA) (by rw [e2]),yK (wv (hash (16:Int) (dh m.h m.r++m.name.toArray.toList))) (wv (bH m).head) (by rw [e2]),yJ 1 ((bH m).br) (by rw [e2]),yB ((aG m)=ae aG (bH m).al) (by rw [e2];rfl),yB (ae a_ (bH m).aL= []) (by rw [e2];rfl),yJ 0 (eY m) (by rw [e1])])
theorem mE {l:List Mem} {i:Nat} (h:i<l.length):List.take 4 (List.drop (i*4) (ae aG l))=aG (l.getD i default):=jm (e:=4) (fun _=>rfl) h
theorem Au (g:gp) (hm:g.al.length≤1000000) (hd:g.aL.length≤1000000) (hh:∀d∈g.aL,d.af.length≤1000000):bC Tryz.prog 21 [.agg (bo g),.agg (bo g)] (ao true):=by
 have ml:(ae aG g.al).length=g.al.length*4:=aE (e:=4) (fun _=>rfl) ..
 have qQ:(ae a_ g.aL).length=g.aL.length*7:=aE (e:=7) (fun _=>rfl) ..
 refine zO Tryz.func21 81<|zq<|zS<|zP 1 [yH ([(10,{av:=some (ao (g.head != g.head)),g:=false}),(11,{b:=false}),(18,{b:=false}),(22,{k:=g.al.length,g:=false}),(25,{k:=g.al.length,g:=false}),(27,{b:=false}),(31,{k:=g.aL.length,g:=false}),(34,{k:=g.aL.length,g:=false}),(36,{b:=false})]++yg [6,7,8,9,13,14,15,16,17,20,21,23,24,26,29,30,32,33,35])] [.aa [43,4,3,2,0,1] [3,2]] (yM 5 (yS ((g.aA != g.aA)=false))++ [yS (ao (wv g.head != wv g.head)=ao (g.head != g.head)),yS ((g.aA != g.aA)=false)]++yM 6 (yS ((g.head != g.head)=false))++yM 3 (yS ((g.br != g.br)=false))++ [yI ml]++yM 3 (yS ((g.br != g.br)=false))++ [yI ml]++yM 2 (yS ((g.br != g.br)=false))++yM 3 (yS (((↑g.al.length:Int) != (↑g.al.length:Int))=false))++ [yI qQ]++yM 3 (yS (((↑g.al.length:Int) != (↑g.al.length:Int))=false))++ [yI qQ]++yM 2 (yS (((↑g.al.length:Int) != (↑g.al.length:Int))=false)))<|bj 43 ((↑g.aL.length:Int) != (↑g.aL.length:Int)) (by simp_all)<|aW<|zS<|zq<|zB 0 (zL (fun (i:Nat)=>(⟨[(43,ao ((↑g.aL.length:Int) != (↑g.aL.length:Int))),(3,AV.addr 3 0),(2,AV.addr 2 0),(0,AV.agg (bo g)),(1,AV.agg (bo g)),(5,ai i)],[(3,⟨1,false,true,(bo g)⟩),(2,⟨1,false,true,List.map (aB 3) (List.map (aB 2) (bo g))⟩)]⟩:AS)) (fun i=>(i≤g.al.length)) (fun i=>(g.al.length-i)) (0) ?_ (zW [.aa [43,3,2,0,1,5] [3,2]]) ?_)
 ·omega
 intro i hi
 refine zS<|zP 1 [yH [(3,{k:=g.al.length})]] [.aa [48,43,3,2,0,1,5] [3,2]] [yI ml] (zD 48 ((↑i:Int)<(↑g.al.length:Int)) (fun h=>?_) (fun h=>?_))
 ·have cX:i<g.al.length:=ah
  have gh:=mE cX
  refine aW<|zS<|zB 1<|zP 1 [{hs:=[(3,{k:=i}),(4,yV (AV.agg (aG (g.al.getD i default)))),(8,{k:=i}),(9,yV (AV.agg (aG (g.al.getD i default))))],T:=10}] [.aa [61,48,43,3,2,0,1,5] [3,2]] [yR (↑i:Int),yO (i*4<(ae aG g.al).length),yu aG g.al i 0 4,yR 4,yR (↑i:Int),yO (i*4<(ae aG g.al).length),yu aG g.al i 0 4,yR 4]<|bj 61 (!((ByteArray.mk (g.al.getD i default).name.toArray).toList == (ByteArray.mk (g.al.getD i default).name.toArray).toList && ((g.al.getD i default).h == (g.al.getD i default).h && (wv (g.al.getD i default).r == wv (g.al.getD i default).r && true) && (wv (g.al.getD i default).used == wv (g.al.getD i default).used && true)))) (by simp_all)<|zK<|aM<|ak<|zX (yH [(1,yV (ai ((↑i:Int)+1)))]) [yN ((↑i:Int)+1)] (aH (i+1) (by assumption) ah (zW [.aa [43,3,2,0,1,5] [3,2]]))
 ·skip
  refine zE 0<|aS<|aK<|bg<|ak<|zS<|zq<|zB 2 (zL (fun (j:Nat)=>(⟨[(48,ao (decide ((↑i:Int)<(↑g.al.length:Int)))),(43,ao ((↑g.aL.length:Int) != (↑g.aL.length:Int))),(3,AV.addr 3 0),(2,AV.addr 2 0),(0,AV.agg (bo g)),(1,AV.agg (bo g)),(5,ai ↑i),(6,ai j)],[(3,⟨1,false,true,(bo g)⟩),(2,⟨1,false,true,List.map (aB 3) (List.map (aB 2) (bo g))⟩)]⟩:AS)) (fun j=>(j≤g.aL.length)) (fun j=>(g.aL.length-j)) (0) ?_ (zW [.aa [48,43,3,2,0,1,5,6] [3,2]]) ?_)
  ·omega
  intro j hj
  refine zS<|zP 1 [yH [(3,{k:=g.aL.length})]] [.aa [66,48,43,3,2,0,1,5,6] [3,2]] [yI qQ] (zD 66 ((↑j:Int)<(↑g.aL.length:Int)) (fun h2=>?_) (fun h2=>?_))
  ·have yC:j<g.aL.length:=ah
   have Vl:(g.aL.getD j default).af.length≤1000000:=hh _ (by rw [List.getD_eq_getElem?_getD,List.getElem?_eq_getElem yC];exact List.getElem_mem yC)
   have hs:=Av (g.aL.getD j default) Vl
   refine aW<|zS<|zB 3<|zP 1 [{hs:=[(3,{k:=j}),(4,yV (AV.agg (a_ (g.aL.getD j default)))),(8,{k:=j}),(9,yV (AV.agg (a_ (g.aL.getD j default)))),(10,yV (ao true))],T:=10}] [.aa [80,66,48,43,3,2,0,1,5,6] [3,2]] [yR (↑j:Int),yO (j*7<(ae a_ g.aL).length),yu a_ g.aL j 0 7,yR 7,yR (↑j:Int),yO (j*7<(ae a_ g.aL).length),yu a_ g.aL j 0 7,yR 7,yI hs]<|zF 80<|zK<|aM<|ak<|zX (yH [(1,yV (ai ((↑j:Int)+1)))]) [yN ((↑j:Int)+1)] (aH (j+1) (by assumption) ah (zW [.aa [48,43,3,2,0,1,5,6] [3,2]]))
  ·skip
   refine zE 2<|aS<|aK<|bg<|ak<|zq<|zR (bL)
def vv (d:np):Prop:=d.bY=0∧d.peer=0∧d.box.length=0∧d.af.length=0∧d.ay.length=0∧d.need=0∧d.target=0
instance (d:np):Decidable (vv d):=inferInstanceAs (Decidable (_∧_∧_∧_∧_∧_∧_))
def fk (e:dP):Prop:=(e.kind=1∨e.kind=2∨e.name= [])∧(e.kind=1∨e.kh=0∧e.kr=0)∧(e.kind=3∨e.br=0)∧(e.kind=4∨vv e.dep)∧(e.kind=5∨e.bY=0∧e.target=0)∧e.dep.target=0
instance (e:dP):Decidable (fk e):=inferInstanceAs (Decidable (_∧_∧_∧_∧_∧_))
def fH (d:np):Int:=if 1024<d.box.length then 8 else if nX d.af.length d.need then 9 else if d.ay.length≠d.af.length then 4 else ff (mN d.af) d.af.length
def vw (d:np):List fJ:=[aJ d.bY,aJ d.peer,dY d.box]++(bF (u64 d.af.length)::d.af.map cz)++(bF (u64 d.ay.length)::d.ay.map aJ)++ [aJ (u64 d.need)]
def fb (e:dP):Int:=if e.kind=1 then (if eh e.name≠0 then eh e.name else e_ e.kh) else if e.kind=2 then eh e.name else if e.kind=3 then (if e.br<1∨8<e.br then 9 else 0) else if e.kind=4 then fH e.dep else if e.target=0 then 9 else 0
def gl (e:dP):List fJ:=if e.kind=1 then [cz e.name,dY (dh e.kh e.kr)] else if e.kind=2 then [cz e.name] else if e.kind=3 then [aJ (u64 e.br)] else if e.kind=4 then vw e.dep else [aJ e.bY,aJ e.target]
def fC (k:Int):Nat:=if k=1∨k=5 then 2 else if k=4 then 6 else 1
def dH (e:dP):Int:=if e.kind<1∨5<e.kind then 3 else if ¬fk e then 4 else if e.aA<1∨2147483647<e.aA then 9 else fb e
def fZ (e:dP):List fJ:=bF (u64 (3+fC e.kind)):: [aJ (u64 e.aA),aJ e.prev,aJ (u64 e.kind)]++gl e
def bN (e:dP):List UInt8:=if dH e=0 then gT (fZ e) else []
def di (e:dP):UInt64:=hash 16 (bN e)
def i5 (e:dP):List (List fJ):=if e.kind=4 then [[aJ e.dep.bY],[aJ e.dep.peer],[dY e.dep.box],bF (u64 e.dep.af.length)::e.dep.af.map cz,bF (u64 e.dep.ay.length)::e.dep.ay.map aJ,[aJ (u64 e.dep.need)]] else (gl e).map fun x=>[x]
theorem H_ {x:List UInt8} (h:eh x=0):1≤x.length∧x.length≤32:=by
 apply Classical.byContradiction
 intro q
 have:=qg (x:=x) ah
 omega
theorem H9 {x:List UInt8} (h:eh x=0):Lib.validD x=true:=by
 have:=H_ h
 cases e:Lib.validD x with
 | true=>rfl
 | false=>have:=ya (x:=x) ah e;omega
theorem I0 {l:List (List UInt8)} {i:Nat} (h:mN l i=0):eh (l.getD i default)=0:=by
 apply Classical.byContradiction
 intro q
 rw [I2 rfl q] at h
 exact q h
theorem th {x:List UInt8} (h:eh x=0):eS (cz x):=.text (by have:=H_ h;omega) (H9 h)
structure QT (d:np):Prop where
 box:d.box.length≤1024
 n1:1≤d.af.length
 n8:d.af.length≤8
 need:1≤d.need∧d.need≤d.af.length
 Rr:d.ay.length=d.af.length
 Bp:∀x∈d.af,eh x=0
theorem JR {d:np} (h:fH d=0):QT d:=by
 unfold fH at h
 by_cases c1:1024<d.box.length
 ·rw [if_pos c1] at h;omega
 rw [if_neg c1] at h
 by_cases c2:nX d.af.length d.need
 ·rw [if_pos c2] at h;omega
 rw [if_neg c2] at h
 by_cases c3:d.ay.length≠d.af.length
 ·rw [if_pos c3] at h;omega
 rw [if_neg c3] at h
 unfold nX at c2
 refine ⟨ah,ah,ah,ah,ah,fun x hx=>?_⟩
 obtain ⟨i,hi,rfl⟩:=List.mem_iff_getElem.1 hx
 have:=I0 (y0 h i hi)
 rwa [List.getD_eq_getElem?_getD,List.getElem?_eq_getElem hi] at this
theorem mK {T:Type} {f:T->fJ} {l:List T} (h:∀x∈l,eS (f x)):∀y∈l.map f,eS y:=fun y hy=>by
 obtain ⟨x,hx,rfl⟩:=List.mem_map.1 hy
 exact h x hx
theorem Iu (h:Int) (r:UInt64):eS (dY (dh h r)):=.byte (by have:=nH h r;omega)
theorem lj {x:fJ} (h:eS x):eO x.kind∧x.cI.length≤10000:=by
 refine ⟨?_,by have:=h.cI;omega⟩
 rcases h.kind with q|q|q
 ·exact .inl q
 ·exact .inr (.inl q)
 ·exact .inr (.inr (.inl q))
theorem mW (n:UInt64):eO (bF n).kind∧(bF n).cI.length≤10000:=⟨.inr (.inr (.inr rfl)),Nat.zero_le _⟩
structure OC (e:dP):Prop where
 Ux:Kb ([[aJ (u64 e.aA)],[aJ e.prev],[aJ (u64 e.kind)]]++i5 e)
 WQ:ff (oL ([[aJ (u64 e.aA)],[aJ e.prev],[aJ (u64 e.kind)]]++i5 e)) (3+(i5 e).length)=0
 arr:pN ([[aJ (u64 e.aA)],[aJ e.prev],[aJ (u64 e.kind)]]++i5 e)=fZ e
 Wp:eT (fZ e)=0
 len:(fZ e).length≤30
 Tv:∀x∈fZ e,eO x.kind∧x.cI.length≤10000
 n6:(i5 e).length≤6
theorem Dm {e:dP} (h:fb e=0) (h4:e.kind≠4):∀x∈gl e,eS x:=by
 intro x hx
 unfold fb at h
 unfold gl at hx
 by_cases k1:e.kind=1
 ·rw [if_pos k1] at h hx
  have hn:eh e.name=0:=by
   apply Classical.byContradiction;intro q;rw [if_pos q] at h;exact q h
  simp only [List.mem_cons,List.not_mem_nil,or_false] at hx
  rcases hx with rfl|rfl
  ·exact th hn
  ·exact Iu _ _
 rw [if_neg k1] at h hx
 by_cases k2:e.kind=2
 ·rw [if_pos k2] at h hx
  obtain rfl:=List.mem_singleton.1 hx
  exact th h
 rw [if_neg k2] at h hx
 by_cases k3:e.kind=3
 ·rw [if_pos k3] at hx
  obtain rfl:=List.mem_singleton.1 hx
  exact .uint _
 rw [if_neg k3] at hx
 rw [if_neg h4] at hx
 simp only [List.mem_cons,List.not_mem_nil,or_false] at hx
 rcases hx with rfl|rfl
 ·exact .uint _
 ·exact .uint _
theorem LI {e:dP} (hk:1≤e.kind∧e.kind≤5) (h4:e.kind≠4):(gl e).length=fC e.kind:=by
 unfold gl fC
 by_cases k1:e.kind=1
 ·rw [if_pos k1,if_pos (.inl k1)];rfl
 rw [if_neg k1]
 by_cases k2:e.kind=2
 ·rw [if_pos k2,if_neg ah,if_neg h4];rfl
 rw [if_neg k2]
 by_cases k3:e.kind=3
 ·rw [if_pos k3,if_neg ah,if_neg h4];rfl
 rw [if_neg k3,if_neg h4,if_pos ah];rfl
theorem En (k:Int):1≤fC k∧fC k≤6:=by unfold fC;split<;>(try split)<;>omega
theorem Fh {f:Nat->Int}:∀ {n:Nat},(∀j,j<n->f j=0)->ff f n=0
 | 0,_=>rfl
 | n+1,h=>by
  show (if _ then _ else _)=_
  rw [if_neg (by rw [Fh fun j hj=>h j ah];decide)]
  exact h n ah
theorem N7 {vs:List (List fJ)} (h:∀v∈vs,eT v=0):ff (oL vs) vs.length=0:=Fh fun j hj=>by
 show eT (vs.getD j default)=0
 rw [List.getD_eq_getElem?_getD,List.getElem?_eq_getElem hj]
 exact h _ (List.getElem_mem hj)
theorem Ah {n:UInt64} {xs:List fJ} (hx:∀x∈xs,eS x) (hn:wv n=xs.length) (h1:1≤xs.length) (h2:xs.length≤100):eT (bF n::xs)=0:=El hx hn h1 h2
theorem zz {e:dP} (h:dH e=0):OC e:=by
 unfold dH at h
 by_cases k0:e.kind<1∨5<e.kind
 ·rw [if_pos k0] at h;omega
 rw [if_neg k0] at h
 by_cases c1:¬fk e
 ·rw [if_pos c1] at h;omega
 rw [if_neg c1] at h
 by_cases c2:e.aA<1∨2147483647<e.aA
 ·rw [if_pos c2] at h;omega
 rw [if_neg c2] at h
 have ht:=En e.kind
 have hw:wv (u64 (3+fC e.kind))=(3+fC e.kind:Nat):=by rw [show (3:Int)+fC e.kind=((3+fC e.kind:Nat):Int) by omega,qT];omega
 have h3:∀x∈ [aJ (u64 e.aA),aJ e.prev,aJ (u64 e.kind)],eS x:=fun x hx=>by
  simp only [List.mem_cons,List.not_mem_nil,or_false] at hx
  rcases hx with rfl|rfl|rfl<;>exact .uint _
 by_cases k4:e.kind=4
 ·have hd:fH e.dep=0:=by
   unfold fb at h
   rwa [if_neg ah,if_neg ah,if_neg ah,if_pos k4] at h
  have ok:=JR hd
  have n1:=ok.n1
  have n8:=ok.n8
  have Vu:=ok.Rr
  have hH:∀x∈e.dep.af.map cz,eS x:=mK fun x hx=>th (ok.Bp x hx)
  have hD:∀x∈e.dep.ay.map aJ,eS x:=mK fun x _=>.uint x
  have hB:eS (dY e.dep.box):=.byte ok.box
  have wH:wv (u64 (e.dep.af.length:Int))=(e.dep.af.map cz).length:=by rw [qT,List.length_map];omega
  have wD:wv (u64 (e.dep.ay.length:Int))=(e.dep.ay.map aJ).length:=by rw [qT,List.length_map];omega
  have tk:fC e.kind=6:=by unfold fC;rw [if_neg ah,if_pos k4]
  have hv:i5 e= [[aJ e.dep.bY],[aJ e.dep.peer],[dY e.dep.box],bF (u64 e.dep.af.length)::e.dep.af.map cz,bF (u64 e.dep.ay.length)::e.dep.ay.map aJ,[aJ (u64 e.dep.need)]]:=if_pos k4
  have hf:gl e=vw e.dep:=by unfold gl;rw [if_neg ah,if_neg ah,if_neg ah,if_pos k4]
  have E3:(e.dep.af.map cz).length=e.dep.af.length:=List.length_map ..
  have Bq:(e.dep.ay.map aJ).length=e.dep.af.length:=by rw [List.length_map];exact Vu
  have each:∀v∈ [[aJ (u64 e.aA)],[aJ e.prev],[aJ (u64 e.kind)]]++i5 e,v.length≤20∧eT v=0∧ ∀x∈v,eO x.kind∧x.cI.length≤10000:=by
   have one:∀x,eS x-> [x].length≤20∧eT [x]=0∧ ∀y∈ [x],eO y.kind∧y.cI.length≤10000:=fun x hx=>⟨by simp,Ag hx,fun y hy=>by obtain rfl:=List.mem_singleton.1 hy;exact lj hx⟩
   intro v ID
   rw [hv] at ID
   simp only [List.cons_append,List.nil_append,List.mem_cons,List.not_mem_nil,or_false] at ID
   rcases ID with rfl|rfl|rfl|rfl|rfl|rfl|rfl|rfl|rfl
   ·exact one _ (.uint _)
   ·exact one _ (.uint _)
   ·exact one _ (.uint _)
   ·exact one _ (.uint _)
   ·exact one _ (.uint _)
   ·exact one _ hB
   ·refine ⟨by rw [List.length_cons,E3];omega,Ah hH wH ah ah,fun y hy=>?_⟩
    rcases List.mem_cons.1 hy with rfl|hy
    ·exact mW _
    ·exact lj (hH y hy)
   ·refine ⟨by rw [List.length_cons,Bq];omega,Ah hD wD ah ah,fun y hy=>?_⟩
    rcases List.mem_cons.1 hy with rfl|hy
    ·exact mW _
    ·exact lj (hD y hy)
   ·exact one _ (.uint _)
  have OS:([[aJ (u64 e.aA)],[aJ e.prev],[aJ (u64 e.kind)]]++i5 e).length=9:=by rw [hv];rfl
  have ha:pN ([[aJ (u64 e.aA)],[aJ e.prev],[aJ (u64 e.kind)]]++i5 e)=fZ e:=by
   unfold pN fZ
   rw [OS,hf,hv,tk]
   unfold vw
   simp
  have Ll:(fZ e).length=10+2*e.dep.af.length:=by
   unfold fZ
   rw [hf]
   unfold vw
   simp only [List.length_cons,List.length_append,E3,Bq,List.length_nil]
   omega
  refine ⟨⟨by rw [OS];omega,fun v h=>(each v h).1,fun v h x hx=>((each v h).2.2 x hx).1,fun v h x hx=>((each v h).2.2 x hx).2⟩,?_,ha,?_,ah,?_,by rw [hv];exact Nat.le_refl _⟩
  ·have:=N7 fun v h=>(each v h).2.1
   rw [OS] at this
   rw [show 3+(i5 e).length=9 by rw [hv];rfl]
   exact this
  ·refine KC ah ?_
   have w9:wv (u64 (3+fC e.kind))=9:=by rw [hw,tk];rfl
   have e1:fZ e=bF (u64 (3+fC e.kind))::([aJ (u64 e.aA),aJ e.prev,aJ (u64 e.kind),aJ e.dep.bY,aJ e.dep.peer,dY e.dep.box]++((bF (u64 e.dep.af.length)::e.dep.af.map cz)++((bF (u64 e.dep.ay.length)::e.dep.ay.map aJ)++ [aJ (u64 e.dep.need)]))):=by
    unfold fZ
    rw [hf]
    unfold vw
    simp
   have l6:∀x∈ [aJ (u64 e.aA),aJ e.prev,aJ (u64 e.kind),aJ e.dep.bY,aJ e.dep.peer,dY e.dep.box],eS x:=fun x hx=>by
    simp only [List.mem_cons,List.not_mem_nil,or_false] at hx
    rcases hx with rfl|rfl|rfl|rfl|rfl|rfl
    ·exact .uint _
    ·exact .uint _
    ·exact .uint _
    ·exact .uint _
    ·exact .uint _
    ·exact hB
   rw [e1,HI _ ah ah,w9,ny,ua (by simp) l6 (show ((6:Nat):Int)<9 by omega) (ah:1+6≤500)]
   show ly ([]++ [(9:Int)-6]) (1+6) _=_
   rw [ny,wT (by simp) hH wH ah (by decide) ah]
   show ly ([]++ [(9:Int)-6-1]) (1+6+(bF (u64 e.dep.af.length)::e.dep.af.map cz).length) _=_
   rw [List.length_cons,E3,ny,wT (by simp) hD wD ah (by decide) ah]
   show ly ([]++ [(([aJ (u64 e.dep.need)]:List fJ).length:Int)]) _ [aJ (u64 e.dep.need)]=_
   have Sp:(bF (u64 (e.dep.ay.length:Int))::e.dep.ay.map aJ).length=e.dep.af.length+1:=by rw [List.length_cons,Bq]
   rw [Sp]
   exact ub (f:=[]) (xs:=[aJ (u64 e.dep.need)]) (Nat.zero_le _) (fun x hx=>by obtain rfl:=List.mem_singleton.1 hx;exact .uint _) Nat.zero_lt_one (by show _+1≤_;omega)
  ·intro x hx
   rw [←ha] at hx
   unfold pN at hx
   rcases List.mem_cons.1 hx with rfl|hx
   ·exact mW _
   ·obtain ⟨v,Nn,Nl⟩:=List.mem_flatten.1 hx
    exact (each v Nn).2.2 x Nl
 ·have Lm:=Dm h k4
  have Ll:=LI (e:=e) ah k4
  have hv:i5 e=(gl e).map fun x=>[x]:=if_neg k4
  have TJ:∀x∈ [aJ (u64 e.aA),aJ e.prev,aJ (u64 e.kind)]++gl e,eS x:=fun x hx=>by
   rcases List.mem_append.1 hx with hx|hx
   ·exact h3 x hx
   ·exact Lm x hx
  have T2:([aJ (u64 e.aA),aJ e.prev,aJ (u64 e.kind)]++gl e).length=3+fC e.kind:=by rw [List.length_append,Ll];rfl
  obtain ⟨v1,v2,v3,v4⟩:=po TJ ah ah
  have hm:([aJ (u64 e.aA),aJ e.prev,aJ (u64 e.kind)]++gl e).map (fun x=>[x])= [[aJ (u64 e.aA)],[aJ e.prev],[aJ (u64 e.kind)]]++i5 e:=by rw [List.map_append,hv];rfl
  rw [hm] at v1 v2 v3 v4
  have ha:pN ([[aJ (u64 e.aA)],[aJ e.prev],[aJ (u64 e.kind)]]++i5 e)=fZ e:=by
   rw [v4,T2]
   unfold fZ
   rw [show ((3+fC e.kind:Nat):Int)=3+fC e.kind by omega];rfl
  have Nz:(fZ e).length=1+(3+fC e.kind):=by
   rw [←ha,v4,List.length_cons,T2];omega
  refine ⟨v1,?_,ha,by rw [←ha];exact v3,ah,fun x hx=>?_,by rw [hv,List.length_map];omega⟩
  ·rw [List.length_append] at v2
   exact v2
  ·rw [←ha,v4] at hx
   rcases List.mem_cons.1 hx with rfl|hx
   ·exact mW _
   ·exact lj (TJ x hx)
def dG (l:List Mem) (h:List UInt8):Int:=if (∃m∈l,m.name=h) then (l.findIdx (fun m=>m.name == h):Int) else -1
theorem yk {l:List Mem} {h:List UInt8} (hn:∀j,j<l.length->(l.getD j default).name≠h):dG l h= -1:=by
 unfold dG
 rw [if_neg]
 rintro ⟨m,hm,e⟩
 obtain ⟨j,hj,e2⟩:=List.getElem_of_mem hm
 exact hn j hj (by rw [List.getD_eq_getElem?_getD,List.getElem?_eq_getElem hj];show l[j].name=h;rw [e2];exact e)
theorem ym {l:List Mem} {h:List UInt8} {i:Nat} (hi:i<l.length) (hn:∀j,j<i->(l.getD j default).name≠h) (e:(l.getD i default).name=h):dG l h=i:=by
 rw [List.getD_eq_getElem?_getD,List.getElem?_eq_getElem hi] at e
 have e:l[i].name=h:=e
 unfold dG
 rw [if_pos ⟨l[i],List.getElem_mem hi,e⟩]
 have:l.findIdx (fun m=>m.name == h)=i:=(List.findIdx_eq hi).2 ⟨by simpa using e,fun j hj=>by
  have:=hn j hj
  rw [List.getD_eq_getElem?_getD,List.getElem?_eq_getElem ah] at this
  simpa using this⟩
 rw [this]
theorem CY (seed:UInt64) (h:Int):bC Tryz.prog 97 [aw seed,ai h] (.kX 142 [.ptr [ai h] 0,.ptr [aw seed] 0]):=by
 refine zO Tryz.func97 6<|zP 2 [{},{}] [.aa [4,3,2,0,1] []] []<|zR (zV [yR [AV.ptr [ai h] 0,AV.ptr [aw seed] 0]])
def kO (seed:UInt64) (h i:Nat):List UInt64:=(List.range (2^(h-i))).map (gf seed i)
theorem qj (seed:UInt64) (h i:Nat):(kO seed h i).length=2^(h-i):=by simp [kO]
theorem qk (seed:UInt64) (h i k:Nat) (hk:k<2^(h-i)):(kO seed h i).getD k 0=gf seed i k:=by simp [kO,hk]
def yp (yv:Value) (seed:UInt64) (h:Nat) (ft:Nat) (l:List UInt64):AS :=
 ⟨[(0,.val yv),(1,.ptr [ai (h:Int)] 0),(2,.ptr [aw seed] 0),(4,.ref 11),(6,ai (ft:Int))],[(11,⟨1,true,false,aj l⟩)]⟩
theorem K6 (yv:Value) (seed:UInt64) (h:Nat) (hh:h≤4):bf Tryz.prog 63 (Code.seq (iu (du Tryz.f142)) (Code.seq (iu (dI (du Tryz.f142))) (Code.seq (iu (dI (dI (du Tryz.f142)))) .skip))) (fun e s'=>e= .normal∧bU s' (yp yv seed h 0 (kO seed h 0))) ⟨k7 0 [.val yv,.ptr [ai (h:Int)] 0,.ptr [aw seed] 0],[]⟩:=by
 have hl:=qj seed h 0
 have gh:∀k:Nat,k<2^h->(kO seed h 0).getD k 0=combine k (bG seed k 18):=fun k hk=>qk seed h 0 k hk
 rw [Nat.sub_zero] at hl
 have hp:2^h≤16:=Nat.pow_le_pow_right (by decide) hh
 have C8:IntKind.i64.wrap (1*2^min ((h:Nat):Int).toNat IntKind.i64.bits)=((2^h:Nat):Int):=by
  rcases (ah:h=0∨h=1∨h=2∨h=3∨h=4) with rfl|rfl|rfl|rfl|rfl<;>decide +kernel
 generalize kO seed h 0=L at *
 generalize 2^h=m at *
 refine zP 1 [yH [(1,yV (ai ↑m)),(2,{av:=some (AV.arr (aj (List.replicate m 0))),k:=m,m:=m})]] [.aa [4,0,1,2] [11]] ([yI (yc C8),yO ((0:Int)≤(↑h:Int)),yB (List.replicate m (cN)=aj (List.replicate m 0)) (tM _)]++yM 2 (yR (↑m:Int))++ [yO (m≤m),yO (8*m≤281474976710656),yB (m≤maxLen) (by unfold maxLen;omega)])<|zS<|zQ 1 [yH [(1,{k:=m})]] [yB ((aj (List.replicate m 0)).length=m) (by simp only [aC,List.length_replicate])]<|zB 0 (zL (fun (k:Nat)=>(⟨[(13,ai ↑m),(4,AV.ref 11),(0,AV.val yv),(1,AV.ptr [ai ↑h] 0),(2,AV.ptr [aw seed] 0),(14,ai k)],[(11,⟨1,true,false,aj (cT m L k)⟩)]⟩:AS)) (fun k=>(k≤m)) (fun k=>(m-k)) (0) ?_ (zW [.aa [13,4,0,1,2,14] [11]]) ?_)
 ·omega
 intro k hk
 have hf:=kx hl hk
 refine zq<|zS (zD 15 ((↑k:Int)<(↑m:Int)) (fun g=>?_) (fun g=>?_))
 ·have e1:=ma hl (ah:k<m)
  have e2:=gh k ah
  refine aW<|zS<|zB 1<|zq<|zX (yH [(4,yV (aw (combine (↑k:Int) (bG seed (↑k:Int) 18)))),(5,{k:=k}),(6,yV (AV.arr (aj ((cT m L k).set k (combine (↑k:Int) (bG seed (↑k:Int) 18))))))]) [yI (AZ seed ((↑k:Int))),yR (↑k:Int),yB (k<(aj (cT m L k)).length) (by simp only [aC];omega),yB ((aj (cT m L k)).set k (aw (combine (↑k:Int) (bG seed (↑k:Int) 18)))=aj ((cT m L k).set k (combine (↑k:Int) (bG seed (↑k:Int) 18)))) (kz _ _ _),yB (k+1≤(aj (cT m L k)).length) (by simp only [aC];omega)]<|aM<|ak<|zX (yH [(0,yV (ai ((↑k:Int)+1)))]) [yN ((↑k:Int)+1)] (aH (k+1) ah ah (eu [.aa [13,4,0,1,2,14] [11]] [] [11] [yB (aj ((cT m L k).set k (combine (↑k:Int) (bG seed (↑k:Int) 18)))=aj (cT m L (k+1))) (congrArg aj (by rw [←e2];exact e1))]))
 ·have e:k=m:=ah
  subst e
  have e1:=kR hl
  rw [e1]
  refine zE 0<|aS<|aK<|bg<|ak<|zq<|zK ?_
  exact ⟨rfl,bU.of [.aa [0,1,2,4,6] [11]] (s1:=yp yv seed h 0 L) bt rfl⟩
theorem Io (yv:Value) (seed:UInt64) (h ft:Nat) (hh:h≤4) (Sm:ft<h):bf Tryz.prog 63 (dI (fA (fA (dI (dI (dI (du Tryz.f142))))))) (fun e s'=>e= .normal∧bU s' (yp yv seed h (ft+1) (kO seed h (ft+1)))) (yp yv seed h ft (kO seed h ft)):=by
 have hl:=qj seed h ft
 have Bq:=qj seed h (ft+1)
 have em:2^(h-ft)=2*2^(h-(ft+1)):=by rw [show h-ft=h-(ft+1)+1 by omega,Nat.pow_succ,Nat.mul_comm]
 have hp:2^(h-(ft+1))≤16:=Nat.le_trans (Nat.pow_le_pow_right (by decide) (by omega:h-(ft+1)≤4)) (by decide)
 have gh:∀k:Nat,k<2^(h-(ft+1))->(kO seed h (ft+1)).getD k 0=gR ((ft+1:Nat):Int) ((kO seed h ft).getD (2*k) 0) ((kO seed h ft).getD (2*k+1) 0):=fun k hk=>by
  rw [qk seed h (ft+1) k hk,qk seed h ft (2*k) ah,qk seed h ft (2*k+1) ah];rfl
 generalize kO seed h ft=L at *
 generalize kO seed h (ft+1)=L2 at *
 rw [em] at hl
 clear em
 generalize 2^(h-(ft+1))=m at *
 have hq:IntKind.i64.wrap ((L.length:Int).tdiv 2)=(m:Int):=by
  rw [hl,Int.tdiv_eq_ediv_of_nonneg ah,fg ah ah];omega
 show bf _ _ _ _ (AS.mk [(0,.val yv),(1,.ptr [ai (h:Int)] 0),(2,.ptr [aw seed] 0),(4,.ref 11),(6,ai (ft:Int))] [(11,Row.mk 1 true false (aj L))])
 refine zS<|zB 3<|zP 1 [yH [(1,{k:=L.length}),(2,yV (ai ↑m)),(3,{av:=some (AV.arr (aj (List.replicate m 0))),k:=m,m:=m})]] [.aa [7,0,1,2,4,6] [38,11]] ([yI (aC L),yI (yc hq),yO ((2:Int)≠(0:Int)),yB (List.replicate m (cN)=aj (List.replicate m 0)) (tM _)]++yM 2 (yR (↑m:Int))++ [yO (m≤m),yO (8*m≤281474976710656),yB (m≤maxLen) (by unfold maxLen;omega)])<|zS<|zQ 1 [yH [(1,{k:=m})]] [yB ((aj (List.replicate m 0)).length=m) (by simp only [aC,List.length_replicate])]<|zB 4 (zL (fun (k:Nat)=>(⟨[(40,ai ↑m),(7,AV.ref 38),(0,AV.val yv),(1,AV.ptr [ai ↑h] 0),(2,AV.ptr [aw seed] 0),(4,AV.ref 11),(6,ai ↑ft),(41,ai k)],[(11,⟨1,true,false,aj L⟩),(38,⟨1,true,false,aj (cT m L2 k)⟩)]⟩:AS)) (fun k=>(k≤m)) (fun k=>(m-k)) (0) ?_ (zW [.aa [40,7,0,1,2,4,6,41] [11,38]]) ?_)
 ·omega
 intro k hk
 have hf:=kx Bq hk
 refine zq<|zS (zD 42 ((↑k:Int)<(↑m:Int)) (fun g=>?_) (fun g=>?_))
 ·have e1:=ma Bq (ah:k<m)
  have e2:=gh k ah
  have w1:IntKind.i64.wrap ((ft:Int)+1)=((ft+1:Nat):Int):=by rw [fg ah ah];omega
  have w2:IntKind.i64.wrap (2*(k:Int))=((2*k:Nat):Int):=by rw [fg ah ah];omega
  have w3:IntKind.i64.wrap (((2*k:Nat):Int)+1)=((2*k+1:Nat):Int):=by rw [fg ah ah];omega
  refine aW<|zS<|zB 5<|zq<|zX ({hs:=[(3,yV (ai (↑(ft+1):Int))),(6,yV (ai (↑(2*k):Int))),(7,{k:=2*k}),(8,yV (aw (L.getD (2*k) 0))),(11,yV (ai (↑(2*k):Int))),(12,yV (ai (↑(2*k+1):Int))),(13,{k:=2*k+1}),(14,yV (aw (L.getD (2*k+1) 0))),(15,yV (aw (gR (↑(ft+1):Int) (L.getD (2*k) 0) (L.getD (2*k+1) 0)))),(16,{k:=k}),(17,yV (AV.arr (aj ((cT m L2 k).set k (gR (↑(ft+1):Int) (L.getD (2*k) 0) (L.getD (2*k+1) 0))))))],T:=16}) [yB (ai (IntKind.i64.wrap ((↑ft:Int)+1))=ai (↑(ft+1):Int)) (dE ah ah),yB (ai (IntKind.i64.wrap ((2:Int)*(↑k:Int)))=ai (↑(2*k):Int)) (dE ah ah),yR (↑(2*k):Int),yB (2*k<(aj L).length) (by simp only [aC];omega),yB ((aj L)[2*k]?=some (aw (L.getD (2*k) 0))) (dK ah),yB (ai (IntKind.i64.wrap ((2:Int)*(↑k:Int)))=ai (↑(2*k):Int)) (dE ah ah),yB (ai (IntKind.i64.wrap ((↑(2*k):Int)+1))=ai (↑(2*k+1):Int)) (dE ah ah),yR (↑(2*k+1):Int),yB (2*k+1<(aj L).length) (by simp only [aC];omega),yB ((aj L)[2*k+1]?=some (aw (L.getD (2*k+1) 0))) (dK ah),yI (pr (↑(ft+1):Int) (L.getD (2*k) 0) (L.getD (2*k+1) 0)),yR (↑k:Int),yB (k<(aj (cT m L2 k)).length) (by simp only [aC];omega),yB ((aj (cT m L2 k)).set k (aw (gR (↑(ft+1):Int) (L.getD (2*k) 0) (L.getD (2*k+1) 0)))=aj ((cT m L2 k).set k (gR (↑(ft+1):Int) (L.getD (2*k) 0) (L.getD (2*k+1) 0)))) (kz _ _ _),yB (k+1≤(aj (cT m L2 k)).length) (by simp only [aC];omega)]<|aM<|ak<|zX (yH [(0,yV (ai ((↑k:Int)+1)))]) [yN ((↑k:Int)+1)] (aH (k+1) ah ah (eu [.aa [40,7,0,1,2,4,6,41] [11,38]] [] [38] [yB (aj ((cT m L2 k).set k (gR (↑(ft+1):Int) (L.getD (2*k) 0) (L.getD (2*k+1) 0)))=aj (cT m L2 (k+1))) (congrArg aj (by rw [←e2];exact e1))]))
 ·have e:k=m:=ah
  subst e
  have e1:=kR Bq
  rw [e1]
  refine zE 4<|aS<|aK<|bg<|ak<|zX {} []<|aM<|ak<|zX (yH [(1,yV (ai ((↑ft:Int)+1)))]) [yN ((↑ft:Int)+1)] ?_
  exact ⟨rfl,bU.of [.vK 38 11,.aa [0,1,2,4,6] [11]] (s1:=AS.mk [(0,.val yv),(1,.ptr [ai (h:Int)] 0),(2,.ptr [aw seed] 0),(4,.ref 11),(6,ai ((ft:Int)+1))] [(11,Row.mk 1 true false (aj L2))]) bt (by unfold yp;rw [show ((ft+1:Nat):Int)=(ft:Int)+1 by omega])⟩
theorem FF {P:Program} {x y z B:Code} {Q Q':Exit->Act->World->Prop} {K:Act->World->Prop} {a:Act} {w:World} (h:Cr P (.seq x (.seq y (.seq z .skip))) Q a w) (hQ:∀e a w,Q e a w->e= .normal∧K a w) (hB:∀a w,K a w->B.wp P Q' a w):(Code.seq x (.seq y (.seq z B))).wp P Q' a w:=by
 refine wp_seq (wp_mono (kD x _ _ _ h) fun e a w he=>?_)
 cases e with
 | normal =>
  refine wp_seq (wp_mono (kD y _ _ _ he) fun e a w he=>?_)
  cases e with
  | normal =>
   refine wp_seq (wp_mono (kD z _ _ _ he) fun e a w he=>?_)
   cases e with
   | normal=>exact hB _ _ (hQ _ _ _ he).2
   | _=>cases (hQ _ _ _ he).1
  | _=>cases (hQ _ _ _ he).1
 | _=>cases (hQ _ _ _ he).1
def lA:Code->List Oper
 | .region _ ops _=>ops.toList
 | _=>[]
theorem K7 (yv:Value) (seed:UInt64) (h ft:Nat) (l:List UInt64):j8 Tryz.prog 63 (lA (iu (iu (fA (fA (dI (dI (dI (du Tryz.f142))))))))) [] ((lA (iu (iu (fA (fA (dI (dI (dI (du Tryz.f142))))))))).take 3) 0 (yp yv seed h ft l) =
  some (AS.mk [(26,.ref 11),(25,ai (ft:Int)),(24,.val yv),(0,.val yv),(1,.ptr [ai (h:Int)] 0),(2,.ptr [aw seed] 0),(4,.ref 11),(6,ai (ft:Int))] [(11,Row.mk 1 true false (aj l))],[]):=by kernel_rfl
theorem Il (yv:Value) (seed:UInt64) (h ft:Nat) (l:List UInt64):j8 Tryz.prog 63 (lA (iu (iu (fA (fA (dI (dI (dI (du Tryz.f142))))))))) [] ((lA (iu (iu (fA (fA (dI (dI (dI (du Tryz.f142))))))))).drop 4) 4 (lx (AS.mk [(26,.ref 11),(25,ai (ft:Int)),(24,.val yv),(0,.val yv),(1,.ptr [ai (h:Int)] 0),(2,.ptr [aw seed] 0),(4,.ref 11),(6,ai (ft:Int))] [(11,Row.mk 1 true false (aj l))]) 27 (ao true)) =
  some (AS.mk [(32,ao (decide ((ft:Int)<(h:Int)))),(31,ao (decide ((ft:Int)<(h:Int)))),(30,ai (h:Int)),(29,ai (ft:Int)),(28,ao true),(27,ao true),(26,.ref 11),(25,ai (ft:Int)),(24,.val yv),(0,.val yv),(1,.ptr [ai (h:Int)] 0),(2,.ptr [aw seed] 0),(4,.ref 11),(6,ai (ft:Int))] [(11,Row.mk 1 true false (aj l))],[true=true,true=true,true=true,true=true]):=by kernel_rfl
theorem Im (yv:Value) (seed:UInt64) (h ft:Nat) (l:List UInt64):j8 Tryz.prog 63 (lA (iu (iu (fA (fA (dI (dI (dI (du Tryz.f142))))))))) [(5,{g:=false}),(6,{g:=false}),(7,{g:=false}),(8,{b:=false})] ((lA (iu (iu (fA (fA (dI (dI (dI (du Tryz.f142))))))))).drop 4) 4 (lx (AS.mk [(26,.ref 11),(25,ai (ft:Int)),(24,.val yv),(0,.val yv),(1,.ptr [ai (h:Int)] 0),(2,.ptr [aw seed] 0),(4,.ref 11),(6,ai (ft:Int))] [(11,Row.mk 1 true false (aj l))]) 27 (ao false)) =
  some (AS.mk [(32,ao false),(31,.val (.tuple #[])),(30,.val (.tuple #[])),(29,.val (.tuple #[])),(28,ao false),(27,ao false),(26,.ref 11),(25,ai (ft:Int)),(24,.val yv),(0,.val yv),(1,.ptr [ai (h:Int)] 0),(2,.ptr [aw seed] 0),(4,.ref 11),(6,ai (ft:Int))] [(11,Row.mk 1 true false (aj l))],[false=false,false=false,false=false,false=false]):=by kernel_rfl
theorem It.val {n:Nat} {J:(Nat->Prop)->(Nat->Prop)->World->Prop} {s:AS} {a:Act} {w:World} {x:Operand} {v:Value} (h:It n J s a w) (hx:bp s x= .val v):a.eval x=v:=by
 obtain ⟨wb,Z,φ,ms,h1,-⟩:=h
 exact bM (hx ▸ h1.bp x)
theorem Bb (seed:UInt64) (h:Nat) (hh:h≤4):xC Tryz.prog 142 [.ptr [ai (h:Int)] 0,.ptr [aw seed] 0] (fun i=>[ai (i:Int),.sl 1 (aj (kO seed h i))]) (h+1):=by
 refine xC.qe (n:=63) Tryz.func142 (c:=(du Tryz.f142)) bt bt bt (by simp) ?_
 intro l J X hJ hX hy a w hit
 have eb:(du Tryz.f142)= .seq (iu (du Tryz.f142)) (.seq (iu (dI (du Tryz.f142))) (.seq (iu (dI (dI (du Tryz.f142)))) (dI (dI (dI (du Tryz.f142)))))):=by kernel_rfl
 have eB:dI (dI (dI (du Tryz.f142)))= .block 2 (.loop (.seq (.seq (.region 7 (lA (iu (iu (fA (fA (dI (dI (dI (du Tryz.f142))))))))).toArray false) (.cond (.tmp 32) .skip (.exit 2))) (dI (fA (fA (dI (dI (dI (du Tryz.f142))))))))):=by kernel_rfl
 have R_:=It.Tw hit (hJ 0) (K6 (.func (.yield l) #[] #[]) seed h hh)
 rw [eb]
 refine FF (K:=It 63 (J 0) (yp (.func (.yield l) #[] #[]) seed h 0 (kO seed h 0))) R_ (fun e a w ⟨s',⟨he,hw⟩,hi⟩=>⟨he,hi.o7 (hJ 0) hw⟩) fun a w OV=>?_
 rw [eB]
 refine wp_block (EO (fun k a w=>∃ft,ft≤h∧k=h-ft∧It 63 (J ft) (yp (.func (.yield l) #[] #[]) seed h ft (kO seed h ft)) a w) h ⟨0,ah,ah,OV⟩ ?_)
 rintro k a w ⟨ft,Sm,rfl,hit⟩
 refine wp_seq (wp_seq ?_)
 refine Hk (d:=27) (l1:=(lA (iu (iu (fA (fA (dI (dI (dI (du Tryz.f142))))))))).take 3) (o:=((lA (iu (iu (fA (fA (dI (dI (dI (du Tryz.f142))))))))).drop 3).headD default) (l2:=(lA (iu (iu (fA (fA (dI (dI (dI (du Tryz.f142))))))))).drop 4) (y:=.tmp 24) (xs:= #[.tmp 25,.tmp 26]) (ts:= #[3,27]) bt bt bt bt (by rintro ⟨_,_,he,_⟩;rcases he with he|he<;>cases he) bt bt<|hit.ops (hJ ft) (K7 _ seed h ft _) trivial fun a1 w1 Rf=>⟨l,Rf.val (x:=.tmp 24) bt,?_⟩
 refine It.yield (d:=27) (xs:=[.tmp 25,.tmp 26]) hJ hX (by decide) hy Rf ah (s1:=AS.mk [(26,.sl 1 (aj (kO seed h ft))),(25,ai (ft:Int)),(24,.val (.func (.yield l) #[] #[])),(0,.val (.func (.yield l) #[] #[])),(1,.ptr [ai (h:Int)] 0),(2,.ptr [aw seed] 0),(4,.sl 1 (aj (kO seed h ft))),(6,ai (ft:Int))] []) bt bt bt _ (fun w2 cX=>?_) (fun w2 cX=>?_)
 ·refine cX.ops (hJ (ft+1)) (Il _ seed h ft _) ⟨rfl,rfl,rfl,rfl,trivial⟩ fun a3 w3 OU=>?_
  have hv:=OU.val (x:=.tmp 32) (v:=.bool (decide ((ft:Int)<(h:Int)))) bt
  refine wp_cond_split hv (fun ht=>?_) (fun hf=>?_)
  ·have dk:ft<h:=by have:=of_decide_eq_true ht;omega
   refine wp_skip ?_
   have Vk:=OU.o7 (hJ (ft+1)) (s':=yp (.func (.yield l) #[] #[]) seed h ft (kO seed h ft)) (bU.of [.aa [0,1,2,4,6] [11]] bt rfl)
   refine wp_mono (kD _ _ _ _ (It.Tw Vk (hJ (ft+1)) (Io _ seed h ft hh dk))) fun e a5 w5 ⟨s',⟨he,hw⟩,Vj⟩=>?_
   subst he
   exact ⟨h-(ft+1),ah,ft+1,ah,rfl,Vj.o7 (hJ (ft+1)) hw⟩
  ·have uW:ft=h:=by have:=of_decide_eq_false hf;omega
   subst uW
   refine wp_exit ?_
   exact ⟨.inl rfl,_,.inl OU⟩
 ·refine cX.ops hX (Im _ seed h ft _) ⟨rfl,rfl,rfl,rfl,trivial⟩ fun a3 w3 OU=>?_
  have hv:=OU.val (x:=.tmp 32) (v:=.bool false) bt
  refine wp_cond_false hv (wp_exit ?_)
  exact ⟨.inl rfl,_,.inr OU⟩
end Go.Proofs.YtjgbhhnghedgdaaGreatDoor
