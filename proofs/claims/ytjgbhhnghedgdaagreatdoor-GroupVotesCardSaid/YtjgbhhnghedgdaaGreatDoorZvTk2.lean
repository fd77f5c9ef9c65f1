import Derived.Test.YtjgbhhnghedgdaaGreatDoorZvCb3
set_option linter.all false
namespace Go.Proofs.YtjgbhhnghedgdaaGreatDoor
open Go.RowKit
set_option maxRecDepth 100000
set_option maxHeartbeats 4000000
def Ru (h:Int):Int:=if ct h then 9 else 0
def Mu (h:Int):Int:=if ct h then 0 else h
def Mt (seed:UInt64) (h:Int):UInt64:=if ct h then 0 else gp seed h.toNat 0
theorem pv (seed:UInt64) (h:Int):bG Tryz.prog 85 [aw seed,ai h] (.cw [.agg [ai (Mu h),aw (Mt seed h)],ai (Ru h)]):=by
 by_cases hb:ct h
 ·have e1:Ru h=9:=if_pos hb
  have e2:Mu h=0:=if_pos hb
  have e3:Mt seed h=0:=if_pos hb
  refine zO Tryz.func85 15<|zq<|zS<|zP 1 [yH [(1,yC (ba (h)))]] [.aa [8,5,4,0,1] [4]] [yI (ba h)]<|dB 8 (!!decide (ct h)) (by simp_all)<|bg.qm 1 [{}] [.aa [5,8,4,0,1] [4]] bu (s':=AS.mk [(5,ai 9),(8,ao (!!decide (ct h))),(4,AV.addr 4 0),(0,aw seed),(1,ai h)] [(4,Row.mk 1 false true [ai 0,ez])]) (C:=[2≤2]) bu ⟨ag,trivial⟩<|dC (zV [yJ 0 (Mu h) (by rw [e2]),yK 0 (wv (Mt seed h)) (by rw [e3];rfl),yJ 9 (Ru h) (by rw [e1])])
 ·have e1:Ru h=0:=if_neg hb
  have e2:Mu h=h:=if_neg hb
  have e3:Mt seed h=gp seed h.toNat 0:=if_neg hb
  have sd:0≤h∧h≤4:=by unfold ct at hb;omega
  rw [e1,e2,e3]
  obtain ⟨k,rfl⟩:=Int.eq_ofNat_of_zero_le sd.1
  have hn:=sV seed k 0 ag (Nat.two_pow_pos _)
  rw [Int.toNat_natCast]
  generalize gp seed k 0=r at *
  refine zO Tryz.func85 15<|zq<|zS<|zP 1 [yH [(1,yC (ba ((↑k:Int))))]] [.aa [8,5,4,0,1] [4]] [yI (ba ((↑k:Int)))]<|bk 8 (!!decide (ct (↑k:Int))) (by simp_all)<|a_<|zP 1 [yH [(3,yC hn)]] [.aa [5,8,4,0,1] [4]] [yI hn,yL 2 2]<|zR (bP)
theorem iS (leaf:Int) (h:Nat) (hh:h≤4):bG Tryz.prog 95 [ai leaf,ai h] (ao (decide (leaf<0∨((2^h:Nat):Int)≤leaf))):=by
 rcases (ag:h=0∨h=1∨h=2∨h=3∨h=4) with rfl|rfl|rfl|rfl|rfl
 ·by_cases h1:leaf<0
  ·refine zO Tryz.func95 13<|zP 2 [{},{}] [.aa [4,0,1] []] (yM 5 (yT (leaf<0)))<|zR (zV [yB (Value.bool true=Value.bool (decide (leaf<0∨(↑((2:Nat)^0):Int)≤leaf))) (by simp [h1])])
  ·refine zO Tryz.func95 13<|zP 2 [{},yH ([(7,{b:=false})]++yg [3,4,5,6])] [.aa [4,0,1] []] (yM 3 (yF (leaf<0))++ [yO ((0:Int)≤(↑(0:Nat):Int))]++yM 2 (yF (leaf<0)))<|zR (zV [yB (Value.bool (decide (leaf≥IntKind.i64.wrap ((1:Int)*(2:Int)^min (↑(0:Nat):Int).toNat IntKind.i64.bits)))=Value.bool (decide (leaf<0∨(↑((2:Nat)^0):Int)≤leaf))) (by simp [h1];rfl)])
 ·by_cases h1:leaf<0
  ·refine zO Tryz.func95 13<|zP 2 [{},{}] [.aa [4,0,1] []] (yM 5 (yT (leaf<0)))<|zR (zV [yB (Value.bool true=Value.bool (decide (leaf<0∨(↑((2:Nat)^1):Int)≤leaf))) (by simp [h1])])
  ·refine zO Tryz.func95 13<|zP 2 [{},yH ([(7,{b:=false})]++yg [3,4,5,6])] [.aa [4,0,1] []] (yM 3 (yF (leaf<0))++ [yO ((0:Int)≤(↑(1:Nat):Int))]++yM 2 (yF (leaf<0)))<|zR (zV [yB (Value.bool (decide (leaf≥IntKind.i64.wrap ((1:Int)*(2:Int)^min (↑(1:Nat):Int).toNat IntKind.i64.bits)))=Value.bool (decide (leaf<0∨(↑((2:Nat)^1):Int)≤leaf))) (by simp [h1];rfl)])
 ·by_cases h1:leaf<0
  ·refine zO Tryz.func95 13<|zP 2 [{},{}] [.aa [4,0,1] []] (yM 5 (yT (leaf<0)))<|zR (zV [yB (Value.bool true=Value.bool (decide (leaf<0∨(↑((2:Nat)^2):Int)≤leaf))) (by simp [h1])])
  ·refine zO Tryz.func95 13<|zP 2 [{},yH ([(7,{b:=false})]++yg [3,4,5,6])] [.aa [4,0,1] []] (yM 3 (yF (leaf<0))++ [yO ((0:Int)≤(↑(2:Nat):Int))]++yM 2 (yF (leaf<0)))<|zR (zV [yB (Value.bool (decide (leaf≥IntKind.i64.wrap ((1:Int)*(2:Int)^min (↑(2:Nat):Int).toNat IntKind.i64.bits)))=Value.bool (decide (leaf<0∨(↑((2:Nat)^2):Int)≤leaf))) (by simp [h1];rfl)])
 ·by_cases h1:leaf<0
  ·refine zO Tryz.func95 13<|zP 2 [{},{}] [.aa [4,0,1] []] (yM 5 (yT (leaf<0)))<|zR (zV [yB (Value.bool true=Value.bool (decide (leaf<0∨(↑((2:Nat)^3):Int)≤leaf))) (by simp [h1])])
  ·refine zO Tryz.func95 13<|zP 2 [{},yH ([(7,{b:=false})]++yg [3,4,5,6])] [.aa [4,0,1] []] (yM 3 (yF (leaf<0))++ [yO ((0:Int)≤(↑(3:Nat):Int))]++yM 2 (yF (leaf<0)))<|zR (zV [yB (Value.bool (decide (leaf≥IntKind.i64.wrap ((1:Int)*(2:Int)^min (↑(3:Nat):Int).toNat IntKind.i64.bits)))=Value.bool (decide (leaf<0∨(↑((2:Nat)^3):Int)≤leaf))) (by simp [h1];rfl)])
 ·by_cases h1:leaf<0
  ·refine zO Tryz.func95 13<|zP 2 [{},{}] [.aa [4,0,1] []] (yM 5 (yT (leaf<0)))<|zR (zV [yB (Value.bool true=Value.bool (decide (leaf<0∨(↑((2:Nat)^4):Int)≤leaf))) (by simp [h1])])
  ·refine zO Tryz.func95 13<|zP 2 [{},yH ([(7,{b:=false})]++yg [3,4,5,6])] [.aa [4,0,1] []] (yM 3 (yF (leaf<0))++ [yO ((0:Int)≤(↑(4:Nat):Int))]++yM 2 (yF (leaf<0)))<|zR (zV [yB (Value.bool (decide (leaf≥IntKind.i64.wrap ((1:Int)*(2:Int)^min (↑(4:Nat):Int).toNat IntKind.i64.bits)))=Value.bool (decide (leaf<0∨(↑((2:Nat)^4):Int)≤leaf))) (by simp [h1];rfl)])
theorem E2 (seed:UInt64) (h:Int):bG Tryz.prog 41 [aw seed,ai h] (.agg [ai (Mu h),aw (Mt seed h)]):=by
 refine zO Tryz.func41 14<|zP 3 [{},yH [(2,yC (pv (seed) (h)))],{}] [.aa [5,4,0,1] [4,5]] [yI (pv seed h),yL 2 2,yL 2 2]<|zR (zV [yR (Value.int .i64 (Mu h)),yR (Value.int .u64 (wv (Mt seed h)))])
def eK (k:Nat):Mem:=⟨[109,u8 (48+(k:Int))],4,Mt (300+u64 k) 4,0⟩
theorem C8 (i:Int):bG Tryz.prog 18 [ai i] (.agg (aT (eK (eT i 10)))):=by
 have hm:=oN i (n:=10) ag
 have p2:Mu 4=4:=by decide
 refine zO Tryz.func18 16<|zP 2 [{},{hs:=[(1,yV (ai (↑(eT i (10:Int)):Int))),(2,yV (ai ((48:Int)+(↑(eT i (10:Int)):Int)))),(3,yV (ab (u8 ((48:Int)+(↑(eT i (10:Int)):Int))))),(4,yV (AV.arr (aj [u8 ((48:Int)+(↑(eT i (10:Int)):Int))]))),(5,yV (AV.val (Value.string (ByteArray.mk #[u8 ((48:Int)+(↑(eT i (10:Int)):Int))])))),(8,yV (ai (↑(eT i (10:Int)):Int))),(9,yV (aw (u64 (↑(eT i (10:Int)):Int)))),(10,yV (aw (300+u64 (↑(eT i (10:Int)):Int)))),(11,yC (E2 (300+u64 (↑(eT i (10:Int)):Int)) ((4:Int))))],T:=12}] [.aa [2,0] [2]] [yI (lI i ((10:Int)) ag ag),yN ((48:Int)+(↑(eT i (10:Int)):Int)),yI (ji ((48:Int)+(↑(eT i (10:Int)):Int))),yR [ab (u8 ((48:Int)+(↑(eT i (10:Int)):Int)))],yR (aj [u8 ((48:Int)+(↑(eT i (10:Int)):Int))]),yB ((ByteArray.mk #[109]).size+(ByteArray.mk #[u8 ((48:Int)+(↑(eT i (10:Int)):Int))]).size≤9223372036854775807) (Nat.le_of_ble_eq_true rfl),yI (lI i ((10:Int)) ag ag),yI (a7 (↑(eT i (10:Int)):Int)),yR (aw (300+u64 (↑(eT i (10:Int)):Int))),yI (E2 (300+u64 (↑(eT i (10:Int)):Int)) ((4:Int))),yL 4 4]<|zR (zV [yR (Value.string (ByteArray.mk (eK (eT i (10:Int))).name.toArray)),yR (Value.int .i64 (Mu (4:Int))),yR (Value.int .u64 (wv (eK (eT i (10:Int))).r)),yR (Value.int .u64 0)])
theorem PV {i:Nat} (h:i<10):eT (i:Int) 10=i:=by
 unfold eT
 rw [Int.emod_eq_of_lt ag ag,Int.emod_eq_of_lt ag ag,Int.toNat_natCast]
theorem f_ (i:Nat) (h:i<10):bG Tryz.prog 18 [ai i] (.agg (aT (eK i))):=by
 have:=C8 i
 rwa [PV h] at this
def T1 (g:ig):List AV:=[ai g.aC,aw g.head,ai g.bA,.own 4 (af aT g.aq),.own 7 (af bj g.aU)]
theorem dK (h:Int) (r:UInt64):bG Tryz.prog 43 [.agg [ai h,aw r]] (.cw [.own 1 (aj (d_ h r)),ai (gC h)]):=by
 have hw:(words [r]).length=8:=by rw [eu];rfl
 by_cases h1:ct h
 ·have e:gC h=9:=by rw [gC,if_pos h1]
  have ed:d_ h r= []:=by rw [d_,if_pos h1]
  refine zO Tryz.func43 16<|zq<|zS<|zQ 1 [yH [(2,yC (dw (h)))]] [yI (dw h)]<|iw 6 (ct h)<|zq<|dC (zV [yB (aj (d_ h r)= []) (by rw [ed];rfl),yJ 9 (gC h) (by rw [e])])
 ·have e:gC h=0:=by rw [gC,if_neg h1]
  have ed:d_ h r=u8 h::words [r]:=by rw [d_,if_neg h1]
  refine zO Tryz.func43 16<|zq<|zS<|zQ 1 [yH [(2,yC (dw (h)))]] [yI (dw h)]<|dF 6 (ct h)<|a_<|zS<|Rp 8 [3] [(2,yV (ab (u8 h))),(3,yV (AV.arr (aj [u8 h]))),(6,yV (AV.arr (ah [r]))),(7,yV (AV.own 1 (aj (words [r])))),(8,yV (AV.arr (aj ([u8 h]++words [r]))))] [yI (ji h),yR [ab (u8 h)],yI (aV [u8 h]),yR [aw r],yI (kE [r] (by simp only [List.length_cons,List.length_nil];omega)),yI (aV (words [r])),yR (aj ([u8 h]++words [r])),yL 9 140737488355328]<|al<|bg.rz [.aa [3,2,6,1,0] [15,1]] bu<|zR (zV [yB (aj ([u8 h]++words [r])=aj (d_ h r)) (by rw [ed];rfl),yJ 0 (gC h) (by rw [e])])
theorem dq (h:Int) (r:UInt64):bG Tryz.prog 47 [.agg [ai h,aw r]] (.cw [.own 1 (aj (d_ h r)),ai (gC h)]):=by
 have hw:(words [r]).length=8:=by rw [eu];rfl
 by_cases h1:ct h
 ·have e:gC h=9:=by rw [gC,if_pos h1]
  have ed:d_ h r= []:=by rw [d_,if_pos h1]
  refine zO Tryz.func47 17<|zq<|zS<|zP 1 [yH [(2,yC (ba (h)))]] [.aa [7,3,2,1,0] [1]] [yI (ba h)]<|dB 7 (!!decide (ct h)) (by simp_all)<|zq<|dC (zV [yB (aj (d_ h r)= []) (by rw [ed];rfl),yJ 9 (gC h) (by rw [e])])
 ·have e:gC h=0:=by rw [gC,if_neg h1]
  have ed:d_ h r=u8 h::words [r]:=by rw [d_,if_neg h1]
  refine zO Tryz.func47 17<|zq<|zS<|zP 1 [yH [(2,yC (ba (h)))]] [.aa [7,3,2,1,0] [1]] [yI (ba h)]<|bk 7 (!!decide (ct h)) (by simp_all)<|a_<|zS<|Rp 8 [3] [(2,yV (ab (u8 h))),(3,yV (AV.arr (aj [u8 h]))),(6,yV (AV.arr (ah [r]))),(7,yV (AV.own 1 (aj (words [r])))),(8,yV (AV.arr (aj ([u8 h]++words [r]))))] [yI (ji h),yR [ab (u8 h)],yI (aV [u8 h]),yR [aw r],yI (dO [r] (by simp only [List.length_cons,List.length_nil];omega)),yI (aV (words [r])),yR (aj ([u8 h]++words [r])),yL 9 140737488355328]<|al<|bg.rz [.aa [3,2,7,1,0] [16,1]] bu<|zR (zV [yB (aj ([u8 h]++words [r])=aj (d_ h r)) (by rw [ed];rfl),yJ 0 (gC h) (by rw [e])])
structure ic where
 name:List UInt8
 leaf:Int
 cM:List UInt64
 path:List UInt64
def aL (v:ic):List AV:=[cV v.name,ai v.leaf,.sl 1 (ah v.cM),.sl 1 (ah v.path)]
structure fC where
 aC:Int
 prev:UInt64
 kind:Int
 name:List UInt8
 kh:Int
 kr:UInt64
 bA:Int
 dep:nH
 bV:UInt64
 target:UInt64
 ak:List ic
def bf (e:fC):List AV:=[ai e.aC,aw e.prev,ai e.kind,cV e.name,ai e.kh,aw e.kr,ai e.bA,aw e.dep.bV,aw e.dep.peer,.sl 1 (aj e.dep.box),.sl 1 (af ay e.dep.ae),.sl 1 (ah e.dep.ax),ai e.dep.need,aw e.dep.target,aw e.bV,aw e.target,.sl 4 (af aL e.ak)]
theorem eU (x:List UInt8) (hx:x.length≤1000):bG Tryz.prog 42 [cV x] (ai (eF x)):=by
 by_cases c1:x.length<1
 ·have e:=qC (.inl c1)
  refine zO Tryz.func42 14<|zq<|zS<|zP 1 [yH [(1,yV (ai (↑x.length:Int)))]] [.aa [10,2,0] []] ([yR (ai (↑x.length:Int))]++yM 4 (yT ((↑x.length:Int)<1)))<|zT 10<|zq<|dC (zV [yJ 9 (eF x) (by rw [e])])
 by_cases c3:32<x.length
 ·have e:=qC (.inr c3)
  refine zO Tryz.func42 14<|zq<|zS<|zP 1 [yH ([(1,yV (ai (↑x.length:Int))),(5,{av:=some (ai (↑x.length:Int)),g:=false}),(7,{b:=false})]++yg [4,6])] [.aa [10,2,0] []] ([yR (ai (↑x.length:Int))]++yM 2 (yF ((↑x.length:Int)<1))++ [yR (ai (↑x.length:Int))]++yM 2 (yF ((↑x.length:Int)<1)))<|iw 10 ((↑x.length:Int)>32)<|zq<|dC (zV [yJ 9 (eF x) (by rw [e])])
 by_cases c2:Lib.validD x=false
 ·have e:=y0 ag c2
  refine zO Tryz.func42 14<|zq<|zS<|zP 1 [yH ([(1,yV (ai (↑x.length:Int))),(5,{av:=some (ai (↑x.length:Int)),g:=false}),(7,{b:=false})]++yg [4,6])] [.aa [10,2,0] []] ([yR (ai (↑x.length:Int))]++yM 2 (yF ((↑x.length:Int)<1))++ [yR (ai (↑x.length:Int))]++yM 2 (yF ((↑x.length:Int)<1)))<|dF 10 ((↑x.length:Int)>32)<|a_<|zS<|zP 1 [yH [(1,yV (ao (Lib.validD x))),(2,yV (ao true))]] [.aa [13,10,2,0] []] [yI (kF x ag),yB (ao (!Lib.validD x)=ao true) (by rw [c2];rfl)]<|zT 13<|zq<|dC (zV [yJ 6 (eF x) (by rw [e])])
 have c4:Lib.validD x=true:=by simpa using c2
 have e:=EP ag c4
 refine zO Tryz.func42 14<|zq<|zS<|zP 1 [yH ([(1,yV (ai (↑x.length:Int))),(5,{av:=some (ai (↑x.length:Int)),g:=false}),(7,{b:=false})]++yg [4,6])] [.aa [10,2,0] []] ([yR (ai (↑x.length:Int))]++yM 2 (yF ((↑x.length:Int)<1))++ [yR (ai (↑x.length:Int))]++yM 2 (yF ((↑x.length:Int)<1)))<|dF 10 ((↑x.length:Int)>32)<|a_<|zS<|zP 1 [yH [(1,yV (ao (Lib.validD x))),(2,yV (ao false))]] [.aa [13,10,2,0] []] [yI (kF x ag),yB (ao (!Lib.validD x)=ao false) (by rw [c4];rfl)]<|zF 13<|a_<|zq<|zR (zV [yJ 0 (eF x) (by rw [e])])
def je (m:Mem):Int:=if eF m.name≠0 then eF m.name else if gC m.h≠0 then gC m.h else if m.used≠0 then 18 else 0
def di (m:Mem):ig:=if je m=0 then ⟨0,hash 16 (d_ m.h m.r++m.name),1,[m],[]⟩ else ⟨0,0,0,[],[]⟩
instance:Inhabited ig:=⟨⟨0,0,0,[],[]⟩⟩
theorem n_ (h:Int) (r:UInt64):(d_ h r).length≤9:=by
 unfold d_
 split
 ·exact Nat.zero_le _
 ·have:(words [r]).length=8:=by rw [eu];rfl
  rw [List.length_cons];omega
theorem Ci (a b:List UInt8) (h:a.length+b.length≤1000000):bG Tryz.prog 45 [.sl 1 [.sl 1 (aj a),.sl 1 (aj b)]] (.own 1 (aj (a++b))):=by
 have:=Ec [a,b] (by simp [fH];omega) (by simp)
 rw [show [a,b].flatten=a++b by simp] at this
 exact this
theorem Jt (m:Mem) (hm:m.name.length≤1000):bG Tryz.prog 19 [.agg (aT m)] (.cw [.agg (T1 (di m)),ai (je m)]):=by
 have hz:=rG m.name hm
 by_cases h1:eF m.name=0
 case neg =>
  have e1:je m=eF m.name:=if_pos h1
  have e2:di m=⟨0,0,0,[],[]⟩:=by unfold di;rw [if_neg ag]
  refine zO Tryz.func19 40<|zq<|zS<|zP 2 [yH [(2,yV (ai (eF m.name)))],yH [(1,yV (ao true))]] [.aa [12,4,3,2,1,0] [2,1]] [yI (eU m.name hm),yB (ao (eF m.name != (0:Int))=ao true) (by simp [h1])]<|zT 12<|zP 1 [{}] [.aa [3,12,4,2,1,0] [2,1]] [yL 5 5]<|dC (zV [yJ 0 ((di m).aC) (by rw [e2]),yK 0 (wv (di m).head) (by rw [e2];rfl),yJ 0 ((di m).bA) (by rw [e2]),yB (af aT (di m).aq= []) (by rw [e2];rfl),yB (af bj (di m).aU= []) (by rw [e2];rfl),yJ (eF m.name) (je m) (by rw [e1])])
 by_cases h2:gC m.h=0
 case neg =>
  have e1:je m=gC m.h:=by unfold je;rw [if_neg ag,if_pos h2]
  have e2:di m=⟨0,0,0,[],[]⟩:=by unfold di;rw [if_neg ag]
  refine zO Tryz.func19 40<|zq<|zS<|zP 2 [yH [(2,yV (ai (eF m.name)))],yH [(1,yV (ao false))]] [.aa [12,4,3,2,1,0] [2,1]] [yI (eU m.name hm),yB (ao (eF m.name != (0:Int))=ao false) (by simp [h1])]<|zF 12<|a_<|zP 1 [yH [(2,yC (dK (m.h) (m.r)))]] [.aa [6,5,12,4,3,2,1,0] [1018,2,1]] [yI (dK m.h m.r),yI (aV (d_ m.h m.r))]<|zS<|zQ 1 [yH [(1,yV (ao true))]] [yB (ao (gC m.h != (0:Int))=ao true) (by simp [h2])]<|zT 22<|zP 1 [{}] [.aa [3,22,6,5,12,4,2,1,0] [2,1018,1]] [yL 5 5]<|dC (zV [yJ 0 ((di m).aC) (by rw [e2]),yK 0 (wv (di m).head) (by rw [e2];rfl),yJ 0 ((di m).bA) (by rw [e2]),yB (af aT (di m).aq= []) (by rw [e2];rfl),yB (af bj (di m).aU= []) (by rw [e2];rfl),yJ (gC m.h) (je m) (by rw [e1])])
 by_cases h3:m.used=0
 case neg =>
  have e1:je m=18:=by unfold je;rw [if_neg ag,if_neg ag,if_pos h3]
  have e2:di m=⟨0,0,0,[],[]⟩:=by unfold di;rw [if_neg ag]
  refine zO Tryz.func19 40<|zq<|zS<|zP 2 [yH [(2,yV (ai (eF m.name)))],yH [(1,yV (ao false))]] [.aa [12,4,3,2,1,0] [2,1]] [yI (eU m.name hm),yB (ao (eF m.name != (0:Int))=ao false) (by simp [h1])]<|zF 12<|a_<|zP 1 [yH [(2,yC (dK (m.h) (m.r)))]] [.aa [6,5,12,4,3,2,1,0] [1018,2,1]] [yI (dK m.h m.r),yI (aV (d_ m.h m.r))]<|zS<|zQ 1 [yH [(1,yV (ao false))]] [yB (ao (gC m.h != (0:Int))=ao false) (by simp [h2])]<|zF 22<|a_<|zS<|zP 1 [yH [(2,yV (ao (m.used != 0)))]] [.aa [27,22,6,5,12,4,3,2,1,0] [1018,2,1]] [yI (cG m.used 0)]<|dB 27 (m.used != 0) (by simp_all)<|zP 1 [{}] [.aa [3,27,22,6,5,12,4,2,1,0] [2,1018,1]] [yL 5 5]<|dC (zV [yJ 0 ((di m).aC) (by rw [e2]),yK 0 (wv (di m).head) (by rw [e2];rfl),yJ 0 ((di m).bA) (by rw [e2]),yB (af aT (di m).aq= []) (by rw [e2];rfl),yB (af bj (di m).aU= []) (by rw [e2];rfl),yJ 18 (je m) (by rw [e1])])
 have e1:je m=0:=by unfold je;rw [if_neg ag,if_neg ag,if_neg (by simp [h3])]
 have e2:di m=⟨0,hash 16 (d_ m.h m.r++m.name),1,[m],[]⟩:=by unfold di;rw [if_pos e1]
 have hk:=n_ m.h m.r
 refine zO Tryz.func19 40<|zq<|zS<|zP 2 [yH [(2,yV (ai (eF m.name)))],yH [(1,yV (ao false))]] [.aa [12,4,3,2,1,0] [2,1]] [yI (eU m.name hm),yB (ao (eF m.name != (0:Int))=ao false) (by simp [h1])]<|zF 12<|a_<|zP 1 [yH [(2,yC (dK (m.h) (m.r)))]] [.aa [6,5,12,4,3,2,1,0] [1018,2,1]] [yI (dK m.h m.r),yI (aV (d_ m.h m.r))]<|zS<|zQ 1 [yH [(1,yV (ao false))]] [yB (ao (gC m.h != (0:Int))=ao false) (by simp [h2])]<|zF 22<|a_<|zS<|zP 1 [yH [(2,yV (ao (m.used != 0)))]] [.aa [27,22,6,5,12,4,3,2,1,0] [1018,2,1]] [yI (cG m.used 0)]<|bk 27 (m.used != 0) (by simp_all)<|a_<|zP 2 [yH [(5,yV (AV.own 1 (aj (d_ m.h m.r++m.name.toArray.toList)))),(6,yV (aw (hash (16:Int) (d_ m.h m.r++m.name.toArray.toList))))],{}] [.aa [3,7,27,22,6,5,12,4,2,1,0] [2,38,1]] [yI hz,yI (Ci (d_ m.h m.r) m.name.toArray.toList (by simp only [];omega)),yI (aV (d_ m.h m.r++m.name.toArray.toList)),yI (oo ((16:Int)) (d_ m.h m.r++m.name.toArray.toList)),yL 5 5]<|zR (zV [yJ 0 ((di m).aC) (by rw [e2]),yK (wv (hash (16:Int) (d_ m.h m.r++m.name.toArray.toList))) (wv (di m).head) (by rw [e2]),yJ 1 ((di m).bA) (by rw [e2]),yB ((aT m)=af aT (di m).aq) (by rw [e2];rfl),yB (af bj (di m).aU= []) (by rw [e2];rfl),yJ 0 (je m) (by rw [e1])])
def T2 (g:ig):List AV:=[ai g.aC,aw g.head,ai g.bA,.sl 4 (af aT g.aq),.own 7 (af bj g.aU)]
theorem CR (m:Mem) (hm:m.name.length≤1000):bG Tryz.prog 20 [.agg (aT m)] (.cw [.agg (T2 (di m)),ai (je m)]):=by
 have hz:=rG m.name hm
 by_cases h1:eF m.name=0
 case neg =>
  have e1:je m=eF m.name:=if_pos h1
  have e2:di m=⟨0,0,0,[],[]⟩:=by unfold di;rw [if_neg ag]
  refine zO Tryz.func20 36<|zq<|zS<|zP 2 [yH [(2,yV (ai (eF m.name)))],yH [(1,yV (ao true))]] [.aa [11,4,3,2,1,0] [2,1]] [yI (fQ m.name hm),yB (ao (eF m.name != (0:Int))=ao true) (by simp [h1])]<|zT 11<|zP 1 [{}] [.aa [3,11,4,2,1,0] [2,1]] [yL 5 5]<|dC (zV [yJ 0 ((di m).aC) (by rw [e2]),yK 0 (wv (di m).head) (by rw [e2];rfl),yJ 0 ((di m).bA) (by rw [e2]),yB (af aT (di m).aq= []) (by rw [e2];rfl),yB (af bj (di m).aU= []) (by rw [e2];rfl),yJ (eF m.name) (je m) (by rw [e1])])
 by_cases h2:gC m.h=0
 case neg =>
  have e1:je m=gC m.h:=by unfold je;rw [if_neg ag,if_pos h2]
  have e2:di m=⟨0,0,0,[],[]⟩:=by unfold di;rw [if_neg ag]
  refine zO Tryz.func20 36<|zq<|zS<|zP 2 [yH [(2,yV (ai (eF m.name)))],yH [(1,yV (ao false))]] [.aa [11,4,3,2,1,0] [2,1]] [yI (fQ m.name hm),yB (ao (eF m.name != (0:Int))=ao false) (by simp [h1])]<|zF 11<|a_<|zP 1 [yH [(2,yC (dq (m.h) (m.r)))]] [.aa [6,5,11,4,3,2,1,0] [1017,2,1]] [yI (dq m.h m.r),yI (aV (d_ m.h m.r))]<|zS<|zQ 1 [yH [(1,yV (ao true))]] [yB (ao (gC m.h != (0:Int))=ao true) (by simp [h2])]<|zT 21<|zP 1 [{}] [.aa [3,21,6,5,11,4,2,1,0] [2,1017,1]] [yL 5 5]<|dC (zV [yJ 0 ((di m).aC) (by rw [e2]),yK 0 (wv (di m).head) (by rw [e2];rfl),yJ 0 ((di m).bA) (by rw [e2]),yB (af aT (di m).aq= []) (by rw [e2];rfl),yB (af bj (di m).aU= []) (by rw [e2];rfl),yJ (gC m.h) (je m) (by rw [e1])])
 by_cases h3:m.used=0
 case neg =>
  have e1:je m=18:=by unfold je;rw [if_neg ag,if_neg ag,if_pos h3]
  have e2:di m=⟨0,0,0,[],[]⟩:=by unfold di;rw [if_neg ag]
  refine zO Tryz.func20 36<|zq<|zS<|zP 2 [yH [(2,yV (ai (eF m.name)))],yH [(1,yV (ao false))]] [.aa [11,4,3,2,1,0] [2,1]] [yI (fQ m.name hm),yB (ao (eF m.name != (0:Int))=ao false) (by simp [h1])]<|zF 11<|a_<|zP 1 [yH [(2,yC (dq (m.h) (m.r)))]] [.aa [6,5,11,4,3,2,1,0] [1017,2,1]] [yI (dq m.h m.r),yI (aV (d_ m.h m.r))]<|zS<|zQ 1 [yH [(1,yV (ao false))]] [yB (ao (gC m.h != (0:Int))=ao false) (by simp [h2])]<|zF 21<|a_<|zS<|zP 1 [yH [(2,yV (ao (m.used != 0)))]] [.aa [26,21,6,5,11,4,3,2,1,0] [1017,2,1]] [yI (cG m.used 0)]<|dB 26 (m.used != 0) (by simp_all)<|zP 1 [{}] [.aa [3,26,21,6,5,11,4,2,1,0] [2,1017,1]] [yL 5 5]<|dC (zV [yJ 0 ((di m).aC) (by rw [e2]),yK 0 (wv (di m).head) (by rw [e2];rfl),yJ 0 ((di m).bA) (by rw [e2]),yB (af aT (di m).aq= []) (by rw [e2];rfl),yB (af bj (di m).aU= []) (by rw [e2];rfl),yJ 18 (je m) (by rw [e1])])
 have e1:je m=0:=by unfold je;rw [if_neg ag,if_neg ag,if_neg (by simp [h3])]
 have e2:di m=⟨0,hash 16 (d_ m.h m.r++m.name),1,[m],[]⟩:=by unfold di;rw [if_pos e1]
 have hk:=n_ m.h m.r
 have Td:(aj (d_ m.h m.r)).length≤9:=by rw [aB];exact hk
 have tF:(aj m.name.toArray.toList).length≤1000:=by rw [aB];exact hm
 refine zO Tryz.func20 36<|zq<|zS<|zP 2 [yH [(2,yV (ai (eF m.name)))],yH [(1,yV (ao false))]] [.aa [11,4,3,2,1,0] [2,1]] [yI (fQ m.name hm),yB (ao (eF m.name != (0:Int))=ao false) (by simp [h1])]<|zF 11<|a_<|zP 1 [yH [(2,yC (dq (m.h) (m.r)))]] [.aa [6,5,11,4,3,2,1,0] [1017,2,1]] [yI (dq m.h m.r),yI (aV (d_ m.h m.r))]<|zS<|zQ 1 [yH [(1,yV (ao false))]] [yB (ao (gC m.h != (0:Int))=ao false) (by simp [h2])]<|zF 21<|a_<|zS<|zP 1 [yH [(2,yV (ao (m.used != 0)))]] [.aa [26,21,6,5,11,4,3,2,1,0] [1017,2,1]] [yI (cG m.used 0)]<|bk 26 (m.used != 0) (by simp_all)<|a_<|zS<|Ax 7 [3] [(3,{av:=some (AV.arr (aj (d_ m.h m.r++m.name.toArray.toList))),b:=false}),(4,yV (aw (hash (16:Int) (d_ m.h m.r++m.name.toArray.toList))))] [yB (aj (d_ m.h m.r)++aj m.name.toArray.toList=aj (d_ m.h m.r++m.name.toArray.toList)) (db _ _),yB (cp (aj m.name.toArray.toList)) (gi _),yO (((aj (d_ m.h m.r)).length+(aj m.name.toArray.toList).length)*1≤140737488355328),yI (iQ ((16:Int)) (d_ m.h m.r++m.name.toArray.toList) (by simp only [List.length_append];omega)),yR (AV.agg (aT m)),yR (AV.sl 4 (aT m)),yL 5 5]<|al<|bg.rz [.aa [3,26,21,6,11,4,2,1,0] [2,1]] bu<|zR (zV [yJ 0 ((di m).aC) (by rw [e2]),yK (wv (hash (16:Int) (d_ m.h m.r++m.name.toArray.toList))) (wv (di m).head) (by rw [e2]),yJ 1 ((di m).bA) (by rw [e2]),yB ((aT m)=af aT (di m).aq) (by rw [e2];rfl),yB (af bj (di m).aU= []) (by rw [e2];rfl),yJ 0 (je m) (by rw [e1])])
theorem oO {l:List Mem} {i:Nat} (h:i<l.length):List.take 4 (List.drop (i*4) (af aT l))=aT (l.getD i default):=kM (e:=4) (fun _=>rfl) h
def wu (d:nH):Prop:=d.bV=0∧d.peer=0∧d.box.length=0∧d.ae.length=0∧d.ax.length=0∧d.need=0∧d.target=0
instance (d:nH):Decidable (wu d):=inferInstanceAs (Decidable (_∧_∧_∧_∧_∧_∧_))
def fV (e:fC):Prop:=(e.kind=1∨e.kind=2∨e.name= [])∧(e.kind=1∨e.kh=0∧e.kr=0)∧(e.kind=3∨e.bA=0)∧(e.kind=4∨wu e.dep)∧(e.kind=5∨e.bV=0∧e.target=0)∧e.dep.target=0
instance (e:fC):Decidable (fV e):=inferInstanceAs (Decidable (_∧_∧_∧_∧_∧_))
def fX (d:nH):Int:=if 1024<d.box.length then 8 else if oB d.ae.length d.need then 9 else if d.ax.length≠d.ae.length then 4 else ff (ny d.ae) d.ae.length
def wx (d:nH):List fS:=[aN d.bV,aN d.peer,fj d.box]++(bM (u64 d.ae.length)::d.ae.map cX)++(bM (u64 d.ax.length)::d.ax.map aN)++ [aN (u64 d.need)]
def fI (e:fC):Int:=if e.kind=1 then (if eF e.name≠0 then eF e.name else gC e.kh) else if e.kind=2 then eF e.name else if e.kind=3 then (if e.bA<1∨8<e.bA then 9 else 0) else if e.kind=4 then fX e.dep else if e.target=0 then 9 else 0
def gE (e:fC):List fS:=if e.kind=1 then [cX e.name,fj (d_ e.kh e.kr)] else if e.kind=2 then [cX e.name] else if e.kind=3 then [aN (u64 e.bA)] else if e.kind=4 then wx e.dep else [aN e.bV,aN e.target]
def fU (k:Int):Nat:=if k=1∨k=5 then 2 else if k=4 then 6 else 1
def fa (e:fC):Int:=if e.kind<1∨5<e.kind then 3 else if ¬fV e then 4 else if e.aC<1∨2147483647<e.aC then 9 else fI e
def gk (e:fC):List fS:=bM (u64 (3+fU e.kind)):: [aN (u64 e.aC),aN e.prev,aN (u64 e.kind)]++gE e
def iJ (e:fC):List UInt8:=if fa e=0 then iu (gk e) else []
def cJ (e:fC):UInt64:=hash 16 (iJ e)
def jk (e:fC):List (List fS):=if e.kind=4 then [[aN e.dep.bV],[aN e.dep.peer],[fj e.dep.box],bM (u64 e.dep.ae.length)::e.dep.ae.map cX,bM (u64 e.dep.ax.length)::e.dep.ax.map aN,[aN (u64 e.dep.need)]] else (gE e).map fun x=>[x]
theorem Ip {x:List UInt8} (h:eF x=0):1≤x.length∧x.length≤32:=by
 apply Classical.byContradiction
 intro q
 have:=qC (x:=x) ag
 omega
theorem Io {x:List UInt8} (h:eF x=0):Lib.validD x=true:=by
 have:=Ip h
 cases e:Lib.validD x with
 | true=>rfl
 | false=>have:=y0 (x:=x) ag e;omega
theorem Jd {l:List (List UInt8)} {i:Nat} (h:ny l i=0):eF (l.getD i default)=0:=by
 apply Classical.byContradiction
 intro q
 rw [Jf rfl q] at h
 exact q h
theorem tY {x:List UInt8} (h:eF x=0):fk (cX x):=.text (by have:=Ip h;omega) (Io h)
structure Ro (d:nH):Prop where
 box:d.box.length≤1024
 n1:1≤d.ae.length
 n8:d.ae.length≤8
 need:1≤d.need∧d.need≤d.ae.length
 Q_:d.ax.length=d.ae.length
 Cu:∀x∈d.ae,eF x=0
theorem J5 {d:nH} (h:fX d=0):Ro d:=by
 unfold fX at h
 by_cases c1:1024<d.box.length
 ·rw [if_pos c1] at h;omega
 rw [if_neg c1] at h
 by_cases c2:oB d.ae.length d.need
 ·rw [if_pos c2] at h;omega
 rw [if_neg c2] at h
 by_cases c3:d.ax.length≠d.ae.length
 ·rw [if_pos c3] at h;omega
 rw [if_neg c3] at h
 unfold oB at c2
 refine ⟨ag,ag,ag,ag,ag,fun x hx=>?_⟩
 obtain ⟨i,hi,rfl⟩:=List.mem_iff_getElem.1 hx
 have:=Jd (zw h i hi)
 rwa [List.getD_eq_getElem?_getD,List.getElem?_eq_getElem hi] at this
theorem na {T:Type} {f:T->fS} {l:List T} (h:∀x∈l,fk (f x)):∀y∈l.map f,fk y:=fun y hy=>by
 obtain ⟨x,hx,rfl⟩:=List.mem_map.1 hy
 exact h x hx
theorem II (h:Int) (r:UInt64):fk (fj (d_ h r)):=.byte (by have:=n_ h r;omega)
theorem lJ {x:fS} (h:fk x):fg x.kind∧x.cL.length≤10000:=by
 refine ⟨?_,by have:=h.cL;omega⟩
 rcases h.kind with q|q|q
 ·exact .inl q
 ·exact .inr (.inl q)
 ·exact .inr (.inr (.inl q))
theorem nm (n:UInt64):fg (bM n).kind∧(bM n).cL.length≤10000:=⟨.inr (.inr (.inr rfl)),Nat.zero_le _⟩
structure OY (e:fC):Prop where
 Vk:Kq ([[aN (u64 e.aC)],[aN e.prev],[aN (u64 e.kind)]]++jk e)
 XT:ff (pU ([[aN (u64 e.aC)],[aN e.prev],[aN (u64 e.kind)]]++jk e)) (3+(jk e).length)=0
 arr:p9 ([[aN (u64 e.aC)],[aN e.prev],[aN (u64 e.kind)]]++jk e)=gk e
 Xq:fm (gk e)=0
 len:(gk e).length≤30
 Um:∀x∈gk e,fg x.kind∧x.cL.length≤10000
 n6:(jk e).length≤6
theorem Dx {e:fC} (h:fI e=0) (h4:e.kind≠4):∀x∈gE e,fk x:=by
 intro x hx
 unfold fI at h
 unfold gE at hx
 by_cases k1:e.kind=1
 ·rw [if_pos k1] at h hx
  have hn:eF e.name=0:=by
   apply Classical.byContradiction;intro q;rw [if_pos q] at h;exact q h
  simp only [List.mem_cons,List.not_mem_nil,or_false] at hx
  rcases hx with rfl|rfl
  ·exact tY hn
  ·exact II _ _
 rw [if_neg k1] at h hx
 by_cases k2:e.kind=2
 ·rw [if_pos k2] at h hx
  obtain rfl:=List.mem_singleton.1 hx
  exact tY h
 rw [if_neg k2] at h hx
 by_cases k3:e.kind=3
 ·rw [if_pos k3] at hx
  obtain rfl:=List.mem_singleton.1 hx
  exact .uint _
 rw [if_neg k3] at hx
 rw [if_neg h4] at hx
 simp only [List.mem_cons,List.not_mem_nil,or_false] at hx
 rcases hx with rfl|rfl
 ·exact .uint _
 ·exact .uint _
theorem LX {e:fC} (hk:1≤e.kind∧e.kind≤5) (h4:e.kind≠4):(gE e).length=fU e.kind:=by
 unfold gE fU
 by_cases k1:e.kind=1
 ·rw [if_pos k1,if_pos (.inl k1)];rfl
 rw [if_neg k1]
 by_cases k2:e.kind=2
 ·rw [if_pos k2,if_neg ag,if_neg h4];rfl
 rw [if_neg k2]
 by_cases k3:e.kind=3
 ·rw [if_pos k3,if_neg ag,if_neg h4];rfl
 rw [if_neg k3,if_neg h4,if_pos ag];rfl
theorem Ev (k:Int):1≤fU k∧fU k≤6:=by unfold fU;split<;>(try split)<;>omega
theorem Fq {f:Nat->Int}:∀ {n:Nat},(∀j,j<n->f j=0)->ff f n=0
 | 0,_=>rfl
 | n+1,h=>by
  show (if _ then _ else _)=_
  rw [if_neg (by rw [Fq fun j hj=>h j ag];decide)]
  exact h n ag
theorem Ou {vs:List (List fS)} (h:∀v∈vs,fm v=0):ff (pU vs) vs.length=0:=Fq fun j hj=>by
 show fm (vs.getD j default)=0
 rw [List.getD_eq_getElem?_getD,List.getElem?_eq_getElem hj]
 exact h _ (List.getElem_mem hj)
theorem AG {n:UInt64} {xs:List fS} (hx:∀x∈xs,fk x) (hn:wv n=xs.length) (h1:1≤xs.length) (h2:xs.length≤100):fm (bM n::xs)=0:=Et hx hn h1 h2
theorem Aj {e:fC} (h:fa e=0):OY e:=by
 unfold fa at h
 by_cases k0:e.kind<1∨5<e.kind
 ·rw [if_pos k0] at h;omega
 rw [if_neg k0] at h
 by_cases c1:¬fV e
 ·rw [if_pos c1] at h;omega
 rw [if_neg c1] at h
 by_cases c2:e.aC<1∨2147483647<e.aC
 ·rw [if_pos c2] at h;omega
 rw [if_neg c2] at h
 have ht:=Ev e.kind
 have hw:wv (u64 (3+fU e.kind))=(3+fU e.kind:Nat):=by rw [show (3:Int)+fU e.kind=((3+fU e.kind:Nat):Int) by omega,rD];omega
 have h3:∀x∈ [aN (u64 e.aC),aN e.prev,aN (u64 e.kind)],fk x:=fun x hx=>by
  simp only [List.mem_cons,List.not_mem_nil,or_false] at hx
  rcases hx with rfl|rfl|rfl<;>exact .uint _
 by_cases k4:e.kind=4
 ·have hd:fX e.dep=0:=by
   unfold fI at h
   rwa [if_neg ag,if_neg ag,if_neg ag,if_pos k4] at h
  have ok:=J5 hd
  have n1:=ok.n1
  have n8:=ok.n8
  have Wl:=ok.Q_
  have hH:∀x∈e.dep.ae.map cX,fk x:=na fun x hx=>tY (ok.Cu x hx)
  have hD:∀x∈e.dep.ax.map aN,fk x:=na fun x _=>.uint x
  have hB:fk (fj e.dep.box):=.byte ok.box
  have wH:wv (u64 (e.dep.ae.length:Int))=(e.dep.ae.map cX).length:=by rw [rD,List.length_map];omega
  have wD:wv (u64 (e.dep.ax.length:Int))=(e.dep.ax.map aN).length:=by rw [rD,List.length_map];omega
  have tk:fU e.kind=6:=by unfold fU;rw [if_neg ag,if_pos k4]
  have hv:jk e= [[aN e.dep.bV],[aN e.dep.peer],[fj e.dep.box],bM (u64 e.dep.ae.length)::e.dep.ae.map cX,bM (u64 e.dep.ax.length)::e.dep.ax.map aN,[aN (u64 e.dep.need)]]:=if_pos k4
  have hf:gE e=wx e.dep:=by unfold gE;rw [if_neg ag,if_neg ag,if_neg ag,if_pos k4]
  have Hj:(e.dep.ae.map cX).length=e.dep.ae.length:=List.length_map ..
  have Dj:(e.dep.ax.map aN).length=e.dep.ae.length:=by rw [List.length_map];exact Wl
  have each:∀v∈ [[aN (u64 e.aC)],[aN e.prev],[aN (u64 e.kind)]]++jk e,v.length≤20∧fm v=0∧ ∀x∈v,fg x.kind∧x.cL.length≤10000:=by
   have one:∀x,fk x-> [x].length≤20∧fm [x]=0∧ ∀y∈ [x],fg y.kind∧y.cL.length≤10000:=fun x hx=>⟨by simp,AF hx,fun y hy=>by obtain rfl:=List.mem_singleton.1 hy;exact lJ hx⟩
   intro v Hh
   rw [hv] at Hh
   simp only [List.cons_append,List.nil_append,List.mem_cons,List.not_mem_nil,or_false] at Hh
   rcases Hh with rfl|rfl|rfl|rfl|rfl|rfl|rfl|rfl|rfl
   ·exact one _ (.uint _)
   ·exact one _ (.uint _)
   ·exact one _ (.uint _)
   ·exact one _ (.uint _)
   ·exact one _ (.uint _)
   ·exact one _ hB
   ·refine ⟨by rw [List.length_cons,Hj];omega,AG hH wH ag ag,fun y hy=>?_⟩
    rcases List.mem_cons.1 hy with rfl|hy
    ·exact nm _
    ·exact lJ (hH y hy)
   ·refine ⟨by rw [List.length_cons,Dj];omega,AG hD wD ag ag,fun y hy=>?_⟩
    rcases List.mem_cons.1 hy with rfl|hy
    ·exact nm _
    ·exact lJ (hD y hy)
   ·exact one _ (.uint _)
  have Pa:([[aN (u64 e.aC)],[aN e.prev],[aN (u64 e.kind)]]++jk e).length=9:=by rw [hv];rfl
  have ha:p9 ([[aN (u64 e.aC)],[aN e.prev],[aN (u64 e.kind)]]++jk e)=gk e:=by
   unfold p9 gk
   rw [Pa,hf,hv,tk]
   unfold wx
   simp
  have Lz:(gk e).length=10+2*e.dep.ae.length:=by
   unfold gk
   rw [hf]
   unfold wx
   simp only [List.length_cons,List.length_append,Hj,Dj,List.length_nil]
   omega
  refine ⟨⟨by rw [Pa];omega,fun v h=>(each v h).1,fun v h x hx=>((each v h).2.2 x hx).1,fun v h x hx=>((each v h).2.2 x hx).2⟩,?_,ha,?_,ag,?_,by rw [hv];exact Nat.le_refl _⟩
  ·have:=Ou fun v h=>(each v h).2.1
   rw [Pa] at this
   rw [show 3+(jk e).length=9 by rw [hv];rfl]
   exact this
  ·refine KR ag ?_
   have w9:wv (u64 (3+fU e.kind))=9:=by rw [hw,tk];rfl
   have e1:gk e=bM (u64 (3+fU e.kind))::([aN (u64 e.aC),aN e.prev,aN (u64 e.kind),aN e.dep.bV,aN e.dep.peer,fj e.dep.box]++((bM (u64 e.dep.ae.length)::e.dep.ae.map cX)++((bM (u64 e.dep.ax.length)::e.dep.ax.map aN)++ [aN (u64 e.dep.need)]))):=by
    unfold gk
    rw [hf]
    unfold wx
    simp
   have l6:∀x∈ [aN (u64 e.aC),aN e.prev,aN (u64 e.kind),aN e.dep.bV,aN e.dep.peer,fj e.dep.box],fk x:=fun x hx=>by
    simp only [List.mem_cons,List.not_mem_nil,or_false] at hx
    rcases hx with rfl|rfl|rfl|rfl|rfl|rfl
    ·exact .uint _
    ·exact .uint _
    ·exact .uint _
    ·exact .uint _
    ·exact .uint _
    ·exact hB
   rw [e1,HW _ ag ag,w9,nS,uS (by simp) l6 (show ((6:Nat):Int)<9 by omega) (ag:1+6≤500)]
   show lU ([]++ [(9:Int)-6]) (1+6) _=_
   rw [nS,xy (by simp) hH wH ag (by decide) ag]
   show lU ([]++ [(9:Int)-6-1]) (1+6+(bM (u64 e.dep.ae.length)::e.dep.ae.map cX).length) _=_
   rw [List.length_cons,Hj,nS,xy (by simp) hD wD ag (by decide) ag]
   show lU ([]++ [(([aN (u64 e.dep.need)]:List fS).length:Int)]) _ [aN (u64 e.dep.need)]=_
   have Tb:(bM (u64 (e.dep.ax.length:Int))::e.dep.ax.map aN).length=e.dep.ae.length+1:=by rw [List.length_cons,Dj]
   rw [Tb]
   exact uT (f:=[]) (xs:=[aN (u64 e.dep.need)]) (Nat.zero_le _) (fun x hx=>by obtain rfl:=List.mem_singleton.1 hx;exact .uint _) Nat.zero_lt_one (by show _+1≤_;omega)
  ·intro x hx
   rw [←ha] at hx
   unfold p9 at hx
   rcases List.mem_cons.1 hx with rfl|hx
   ·exact nm _
   ·obtain ⟨v,KE,NH⟩:=List.mem_flatten.1 hx
    exact (each v KE).2.2 x NH
 ·have LA:=Dx h k4
  have Lz:=LX (e:=e) ag k4
  have hv:jk e=(gE e).map fun x=>[x]:=if_neg k4
  have Uy:∀x∈ [aN (u64 e.aC),aN e.prev,aN (u64 e.kind)]++gE e,fk x:=fun x hx=>by
   rcases List.mem_append.1 hx with hx|hx
   ·exact h3 x hx
   ·exact LA x hx
  have UT:([aN (u64 e.aC),aN e.prev,aN (u64 e.kind)]++gE e).length=3+fU e.kind:=by rw [List.length_append,Lz];rfl
  obtain ⟨v1,v2,v3,v4⟩:=pP Uy ag ag
  have hm:([aN (u64 e.aC),aN e.prev,aN (u64 e.kind)]++gE e).map (fun x=>[x])= [[aN (u64 e.aC)],[aN e.prev],[aN (u64 e.kind)]]++jk e:=by rw [List.map_append,hv];rfl
  rw [hm] at v1 v2 v3 v4
  have ha:p9 ([[aN (u64 e.aC)],[aN e.prev],[aN (u64 e.kind)]]++jk e)=gk e:=by
   rw [v4,UT]
   unfold gk
   rw [show ((3+fU e.kind:Nat):Int)=3+fU e.kind by omega];rfl
  have LD:(gk e).length=1+(3+fU e.kind):=by
   rw [←ha,v4,List.length_cons,UT];omega
  refine ⟨v1,?_,ha,by rw [←ha];exact v3,ag,fun x hx=>?_,by rw [hv,List.length_map];omega⟩
  ·rw [List.length_append] at v2
   exact v2
  ·rw [←ha,v4] at hx
   rcases List.mem_cons.1 hx with rfl|hx
   ·exact nm _
   ·exact lJ (Uy x hx)
def dZ (l:List Mem) (h:List UInt8):Int:=if (∃m∈l,m.name=h) then (l.findIdx (fun m=>m.name == h):Int) else -1
theorem y7 {l:List Mem} {h:List UInt8} (hn:∀j,j<l.length->(l.getD j default).name≠h):dZ l h= -1:=by
 unfold dZ
 rw [if_neg]
 rintro ⟨m,hm,e⟩
 obtain ⟨j,hj,e2⟩:=List.getElem_of_mem hm
 exact hn j hj (by rw [List.getD_eq_getElem?_getD,List.getElem?_eq_getElem hj];show l[j].name=h;rw [e2];exact e)
theorem y9 {l:List Mem} {h:List UInt8} {i:Nat} (hi:i<l.length) (hn:∀j,j<i->(l.getD j default).name≠h) (e:(l.getD i default).name=h):dZ l h=i:=by
 rw [List.getD_eq_getElem?_getD,List.getElem?_eq_getElem hi] at e
 have e:l[i].name=h:=e
 unfold dZ
 rw [if_pos ⟨l[i],List.getElem_mem hi,e⟩]
 have:l.findIdx (fun m=>m.name == h)=i:=(List.findIdx_eq hi).2 ⟨by simpa using e,fun j hj=>by
  have:=hn j hj
  rw [List.getD_eq_getElem?_getD,List.getElem?_eq_getElem ag] at this
  simpa using this⟩
 rw [this]
theorem vv (seed:UInt64) (h:Int):bG Tryz.prog 97 [aw seed,ai h] (.mI 142 [.ptr [ai h] 0,.ptr [aw seed] 0]):=by
 refine zO Tryz.func97 6<|zP 2 [{},{}] [.aa [4,3,2,0,1] []] []<|zR (zV [yR [AV.ptr [ai h] 0,AV.ptr [aw seed] 0]])
def k9 (seed:UInt64) (h i:Nat):List UInt64:=(List.range (2^(h-i))).map (gp seed i)
theorem qF (seed:UInt64) (h i:Nat):(k9 seed h i).length=2^(h-i):=by simp [k9]
theorem qG (seed:UInt64) (h i k:Nat) (hk:k<2^(h-i)):(k9 seed h i).getD k 0=gp seed i k:=by simp [k9,hk]
def zc (yv:Value) (seed:UInt64) (h:Nat) (fD:Nat) (l:List UInt64):AS :=
 ⟨[(0,.val yv),(1,.ptr [ai (h:Int)] 0),(2,.ptr [aw seed] 0),(4,.ref 11),(6,ai (fD:Int))],[(11,⟨1,true,false,ah l⟩)]⟩
theorem Lk (yv:Value) (seed:UInt64) (h:Nat) (hh:h≤4):bg Tryz.prog 63 (Code.seq (iK (dE Tryz.f142)) (Code.seq (iK (dV (dE Tryz.f142))) (Code.seq (iK (dV (dV (dE Tryz.f142)))) .skip))) (fun e s'=>e= .normal∧bQ s' (zc yv seed h 0 (k9 seed h 0))) ⟨lx 0 [.val yv,.ptr [ai (h:Int)] 0,.ptr [aw seed] 0],[]⟩:=by
 have hl:=qF seed h 0
 have gM:∀k:Nat,k<2^h->(k9 seed h 0).getD k 0=combine k (bK seed k 18):=fun k hk=>qG seed h 0 k hk
 rw [Nat.sub_zero] at hl
 have hp:2^h≤16:=Nat.pow_le_pow_right (by decide) hh
 have Df:IntKind.i64.wrap (1*2^min ((h:Nat):Int).toNat IntKind.i64.bits)=((2^h:Nat):Int):=by
  rcases (ag:h=0∨h=1∨h=2∨h=3∨h=4) with rfl|rfl|rfl|rfl|rfl<;>decide +kernel
 generalize k9 seed h 0=L at *
 generalize 2^h=m at *
 refine zP 1 [yH [(1,yV (ai ↑m)),(2,{av:=some (AV.arr (ah (List.replicate m 0))),k:=m,m:=m})]] [.aa [4,0,1,2] [11]] ([yI (yc Df),yO ((0:Int)≤(↑h:Int)),yB (List.replicate m (ez)=ah (List.replicate m 0)) (uC _)]++yM 2 (yR (↑m:Int))++ [yO (m≤m),yO (8*m≤281474976710656),yB (m≤maxLen) (by unfold maxLen;omega)])<|zS<|zQ 1 [yH [(1,{k:=m})]] [yB ((ah (List.replicate m 0)).length=m) (by simp only [aA,List.length_replicate])]<|zB 0 (zL (fun (k:Nat)=>(⟨[(13,ai ↑m),(4,AV.ref 11),(0,AV.val yv),(1,AV.ptr [ai ↑h] 0),(2,AV.ptr [aw seed] 0),(14,ai k)],[(11,⟨1,true,false,ah (cU m L k)⟩)]⟩:AS)) (fun k=>(k≤m)) (fun k=>(m-k)) (0) ?_ (zW [.aa [13,4,0,1,2,14] [11]]) ?_)
 ·omega
 intro k hk
 have hf:=kL hl hk
 refine zq<|zS (zD 15 ((↑k:Int)<(↑m:Int)) (fun g=>?_) (fun g=>?_))
 ·have e1:=mB hl (ag:k<m)
  have e2:=gM k ag
  refine a_<|zS<|zB 1<|zq<|zX (yH [(4,yC (sZ (seed) ((↑k:Int)))),(5,{k:=k}),(6,yV (AV.arr (ah ((cU m L k).set k (combine (↑k:Int) (bK seed (↑k:Int) 18))))))]) [yI (sZ seed ((↑k:Int))),yR (↑k:Int),yB (k<(ah (cU m L k)).length) (by simp only [aA];omega),yB ((ah (cU m L k)).set k (aw (combine (↑k:Int) (bK seed (↑k:Int) 18)))=ah ((cU m L k).set k (combine (↑k:Int) (bK seed (↑k:Int) 18)))) (kO _ _ _),yB (k+1≤(ah (cU m L k)).length) (by simp only [aA];omega)]<|aJ<|al<|zX (yH [(0,yV (ai ((↑k:Int)+1)))]) [yN ((↑k:Int)+1)] (aH (k+1) ag ag (eS [.aa [13,4,0,1,2,14] [11]] [] [11] [yB (ah ((cU m L k).set k (combine (↑k:Int) (bK seed (↑k:Int) 18)))=ah (cU m L (k+1))) (congrArg ah (by rw [←e2];exact e1))]))
 ·have e:k=m:=ag
  subst e
  have e1:=lg hl
  rw [e1]
  refine zE 0<|a6<|aM<|bm<|al<|zq<|zK ?_
  exact ⟨rfl,bQ.of [.aa [0,1,2,4,6] [11]] (s1:=zc yv seed h 0 L) bu rfl⟩
theorem ID (yv:Value) (seed:UInt64) (h fD:Nat) (hh:h≤4) (S9:fD<h):bg Tryz.prog 63 (dV (fL (fL (dV (dV (dV (dE Tryz.f142))))))) (fun e s'=>e= .normal∧bQ s' (zc yv seed h (fD+1) (k9 seed h (fD+1)))) (zc yv seed h fD (k9 seed h fD)):=by
 have hl:=qF seed h fD
 have Dj:=qF seed h (fD+1)
 have em:2^(h-fD)=2*2^(h-(fD+1)):=by rw [show h-fD=h-(fD+1)+1 by omega,Nat.pow_succ,Nat.mul_comm]
 have hp:2^(h-(fD+1))≤16:=Nat.le_trans (Nat.pow_le_pow_right (by decide) (by omega:h-(fD+1)≤4)) (by decide)
 have gM:∀k:Nat,k<2^(h-(fD+1))->(k9 seed h (fD+1)).getD k 0=hY ((fD+1:Nat):Int) ((k9 seed h fD).getD (2*k) 0) ((k9 seed h fD).getD (2*k+1) 0):=fun k hk=>by
  rw [qG seed h (fD+1) k hk,qG seed h fD (2*k) ag,qG seed h fD (2*k+1) ag];rfl
 generalize k9 seed h fD=L at *
 generalize k9 seed h (fD+1)=L2 at *
 rw [em] at hl
 clear em
 generalize 2^(h-(fD+1))=m at *
 have hq:IntKind.i64.wrap ((L.length:Int).tdiv 2)=(m:Int):=by
  rw [hl,Int.tdiv_eq_ediv_of_nonneg ag,ft ag ag];omega
 show bg _ _ _ _ (AS.mk [(0,.val yv),(1,.ptr [ai (h:Int)] 0),(2,.ptr [aw seed] 0),(4,.ref 11),(6,ai (fD:Int))] [(11,Row.mk 1 true false (ah L))])
 refine zS<|zB 3<|zP 1 [yH [(1,{k:=L.length}),(2,yV (ai ↑m)),(3,{av:=some (AV.arr (ah (List.replicate m 0))),k:=m,m:=m})]] [.aa [7,0,1,2,4,6] [38,11]] ([yI (aA L),yI (yc hq),yO ((2:Int)≠(0:Int)),yB (List.replicate m (ez)=ah (List.replicate m 0)) (uC _)]++yM 2 (yR (↑m:Int))++ [yO (m≤m),yO (8*m≤281474976710656),yB (m≤maxLen) (by unfold maxLen;omega)])<|zS<|zQ 1 [yH [(1,{k:=m})]] [yB ((ah (List.replicate m 0)).length=m) (by simp only [aA,List.length_replicate])]<|zB 4 (zL (fun (k:Nat)=>(⟨[(40,ai ↑m),(7,AV.ref 38),(0,AV.val yv),(1,AV.ptr [ai ↑h] 0),(2,AV.ptr [aw seed] 0),(4,AV.ref 11),(6,ai ↑fD),(41,ai k)],[(11,⟨1,true,false,ah L⟩),(38,⟨1,true,false,ah (cU m L2 k)⟩)]⟩:AS)) (fun k=>(k≤m)) (fun k=>(m-k)) (0) ?_ (zW [.aa [40,7,0,1,2,4,6,41] [11,38]]) ?_)
 ·omega
 intro k hk
 have hf:=kL Dj hk
 refine zq<|zS (zD 42 ((↑k:Int)<(↑m:Int)) (fun g=>?_) (fun g=>?_))
 ·have e1:=mB Dj (ag:k<m)
  have e2:=gM k ag
  have w1:IntKind.i64.wrap ((fD:Int)+1)=((fD+1:Nat):Int):=by rw [ft ag ag];omega
  have w2:IntKind.i64.wrap (2*(k:Int))=((2*k:Nat):Int):=by rw [ft ag ag];omega
  have w3:IntKind.i64.wrap (((2*k:Nat):Int)+1)=((2*k+1:Nat):Int):=by rw [ft ag ag];omega
  refine a_<|zS<|zB 5<|zq<|zX ({hs:=[(3,yV (ai (↑(fD+1):Int))),(6,yV (ai (↑(2*k):Int))),(7,{k:=2*k}),(8,yV (aw (L.getD (2*k) 0))),(11,yV (ai (↑(2*k):Int))),(12,yV (ai (↑(2*k+1):Int))),(13,{k:=2*k+1}),(14,yV (aw (L.getD (2*k+1) 0))),(15,yV (aw (hY (↑(fD+1):Int) (L.getD (2*k) 0) (L.getD (2*k+1) 0)))),(16,{k:=k}),(17,yV (AV.arr (ah ((cU m L2 k).set k (hY (↑(fD+1):Int) (L.getD (2*k) 0) (L.getD (2*k+1) 0))))))],T:=16}) [yB (ai (IntKind.i64.wrap ((↑fD:Int)+1))=ai (↑(fD+1):Int)) (eN ag ag),yB (ai (IntKind.i64.wrap ((2:Int)*(↑k:Int)))=ai (↑(2*k):Int)) (eN ag ag),yR (↑(2*k):Int),yB (2*k<(ah L).length) (by simp only [aA];omega),yB ((ah L)[2*k]?=some (aw (L.getD (2*k) 0))) (dX ag),yB (ai (IntKind.i64.wrap ((2:Int)*(↑k:Int)))=ai (↑(2*k):Int)) (eN ag ag),yB (ai (IntKind.i64.wrap ((↑(2*k):Int)+1))=ai (↑(2*k+1):Int)) (eN ag ag),yR (↑(2*k+1):Int),yB (2*k+1<(ah L).length) (by simp only [aA];omega),yB ((ah L)[2*k+1]?=some (aw (L.getD (2*k+1) 0))) (dX ag),yI (pQ (↑(fD+1):Int) (L.getD (2*k) 0) (L.getD (2*k+1) 0)),yR (↑k:Int),yB (k<(ah (cU m L2 k)).length) (by simp only [aA];omega),yB ((ah (cU m L2 k)).set k (aw (hY (↑(fD+1):Int) (L.getD (2*k) 0) (L.getD (2*k+1) 0)))=ah ((cU m L2 k).set k (hY (↑(fD+1):Int) (L.getD (2*k) 0) (L.getD (2*k+1) 0)))) (kO _ _ _),yB (k+1≤(ah (cU m L2 k)).length) (by simp only [aA];omega)]<|aJ<|al<|zX (yH [(0,yV (ai ((↑k:Int)+1)))]) [yN ((↑k:Int)+1)] (aH (k+1) ag ag (eS [.aa [40,7,0,1,2,4,6,41] [11,38]] [] [38] [yB (ah ((cU m L2 k).set k (hY (↑(fD+1):Int) (L.getD (2*k) 0) (L.getD (2*k+1) 0)))=ah (cU m L2 (k+1))) (congrArg ah (by rw [←e2];exact e1))]))
 ·have e:k=m:=ag
  subst e
  have e1:=lg Dj
  rw [e1]
  refine zE 4<|a6<|aM<|bm<|al<|zX {} []<|aJ<|al<|zX (yH [(1,yV (ai ((↑fD:Int)+1)))]) [yN ((↑fD:Int)+1)] ?_
  exact ⟨rfl,bQ.of [.uX 38 11,.aa [0,1,2,4,6] [11]] (s1:=AS.mk [(0,.val yv),(1,.ptr [ai (h:Int)] 0),(2,.ptr [aw seed] 0),(4,.ref 11),(6,ai ((fD:Int)+1))] [(11,Row.mk 1 true false (ah L2))]) bu (by unfold zc;rw [show ((fD+1:Nat):Int)=(fD:Int)+1 by omega])⟩
theorem FO {P:Program} {x y z B:Code} {Q Q':Exit->Act->World->Prop} {K:Act->World->Prop} {a:Act} {w:World} (h:CD P (.seq x (.seq y (.seq z .skip))) Q a w) (hQ:∀e a w,Q e a w->e= .normal∧K a w) (hB:∀a w,K a w->B.wp P Q' a w):(Code.seq x (.seq y (.seq z B))).wp P Q' a w:=by
 refine wp_seq (wp_mono (kR x _ _ _ h) fun e a w he=>?_)
 cases e with
 | normal =>
  refine wp_seq (wp_mono (kR y _ _ _ he) fun e a w he=>?_)
  cases e with
  | normal =>
   refine wp_seq (wp_mono (kR z _ _ _ he) fun e a w he=>?_)
   cases e with
   | normal=>exact hB _ _ (hQ _ _ _ he).2
   | _=>cases (hQ _ _ _ he).1
  | _=>cases (hQ _ _ _ he).1
 | _=>cases (hQ _ _ _ he).1
def lV:Code->List Oper
 | .region _ ops _=>ops.toList
 | _=>[]
theorem Ll (yv:Value) (seed:UInt64) (h fD:Nat) (l:List UInt64):kp Tryz.prog 63 (lV (iK (iK (fL (fL (dV (dV (dV (dE Tryz.f142))))))))) [] ((lV (iK (iK (fL (fL (dV (dV (dV (dE Tryz.f142))))))))).take 3) 0 (zc yv seed h fD l) =
  some (AS.mk [(26,.ref 11),(25,ai (fD:Int)),(24,.val yv),(0,.val yv),(1,.ptr [ai (h:Int)] 0),(2,.ptr [aw seed] 0),(4,.ref 11),(6,ai (fD:Int))] [(11,Row.mk 1 true false (ah l))],[]):=by kernel_rfl
theorem IB (yv:Value) (seed:UInt64) (h fD:Nat) (l:List UInt64):kp Tryz.prog 63 (lV (iK (iK (fL (fL (dV (dV (dV (dE Tryz.f142))))))))) [] ((lV (iK (iK (fL (fL (dV (dV (dV (dE Tryz.f142))))))))).drop 4) 4 (lT (AS.mk [(26,.ref 11),(25,ai (fD:Int)),(24,.val yv),(0,.val yv),(1,.ptr [ai (h:Int)] 0),(2,.ptr [aw seed] 0),(4,.ref 11),(6,ai (fD:Int))] [(11,Row.mk 1 true false (ah l))]) 27 (ao true)) =
  some (AS.mk [(32,ao (decide ((fD:Int)<(h:Int)))),(31,ao (decide ((fD:Int)<(h:Int)))),(30,ai (h:Int)),(29,ai (fD:Int)),(28,ao true),(27,ao true),(26,.ref 11),(25,ai (fD:Int)),(24,.val yv),(0,.val yv),(1,.ptr [ai (h:Int)] 0),(2,.ptr [aw seed] 0),(4,.ref 11),(6,ai (fD:Int))] [(11,Row.mk 1 true false (ah l))],[true=true,true=true,true=true,true=true]):=by kernel_rfl
theorem IC (yv:Value) (seed:UInt64) (h fD:Nat) (l:List UInt64):kp Tryz.prog 63 (lV (iK (iK (fL (fL (dV (dV (dV (dE Tryz.f142))))))))) [(5,{g:=false}),(6,{g:=false}),(7,{g:=false}),(8,{b:=false})] ((lV (iK (iK (fL (fL (dV (dV (dV (dE Tryz.f142))))))))).drop 4) 4 (lT (AS.mk [(26,.ref 11),(25,ai (fD:Int)),(24,.val yv),(0,.val yv),(1,.ptr [ai (h:Int)] 0),(2,.ptr [aw seed] 0),(4,.ref 11),(6,ai (fD:Int))] [(11,Row.mk 1 true false (ah l))]) 27 (ao false)) =
  some (AS.mk [(32,ao false),(31,.val (.tuple #[])),(30,.val (.tuple #[])),(29,.val (.tuple #[])),(28,ao false),(27,ao false),(26,.ref 11),(25,ai (fD:Int)),(24,.val yv),(0,.val yv),(1,.ptr [ai (h:Int)] 0),(2,.ptr [aw seed] 0),(4,.ref 11),(6,ai (fD:Int))] [(11,Row.mk 1 true false (ah l))],[false=false,false=false,false=false,false=false]):=by kernel_rfl
theorem It.val {n:Nat} {J:(Nat->Prop)->(Nat->Prop)->World->Prop} {s:AS} {a:Act} {w:World} {x:Operand} {v:Value} (h:It n J s a w) (hx:bq s x= .val v):a.eval x=v:=by
 obtain ⟨wb,Z,φ,ms,h1,-⟩:=h
 exact bF (hx ▸ h1.bq x)
theorem Bt (seed:UInt64) (h:Nat) (hh:h≤4):ye Tryz.prog 142 [.ptr [ai (h:Int)] 0,.ptr [aw seed] 0] (fun i=>[ai (i:Int),.sl 1 (ah (k9 seed h i))]) (h+1):=by
 refine ye.qA (n:=63) Tryz.func142 (c:=(dE Tryz.f142)) bu bu bu (by simp) ?_
 intro l J X hJ hX hy a w hit
 have eb:(dE Tryz.f142)= .seq (iK (dE Tryz.f142)) (.seq (iK (dV (dE Tryz.f142))) (.seq (iK (dV (dV (dE Tryz.f142)))) (dV (dV (dV (dE Tryz.f142)))))):=by kernel_rfl
 have eB:dV (dV (dV (dE Tryz.f142)))= .block 2 (.loop (.seq (.seq (.region 7 (lV (iK (iK (fL (fL (dV (dV (dV (dE Tryz.f142))))))))).toArray false) (.cond (.tmp 32) .skip (.exit 2))) (dV (fL (fL (dV (dV (dV (dE Tryz.f142))))))))):=by kernel_rfl
 have SM:=It.Un hit (hJ 0) (Lk (.func (.yield l) #[] #[]) seed h hh)
 rw [eb]
 refine FO (K:=It 63 (J 0) (zc (.func (.yield l) #[] #[]) seed h 0 (k9 seed h 0))) SM (fun e a w ⟨s',⟨he,hw⟩,hi⟩=>⟨he,hi.nL (hJ 0) hw⟩) fun a w Fh=>?_
 rw [eB]
 refine wp_block (EX (fun k a w=>∃fD,fD≤h∧k=h-fD∧It 63 (J fD) (zc (.func (.yield l) #[] #[]) seed h fD (k9 seed h fD)) a w) h ⟨0,ag,ag,Fh⟩ ?_)
 rintro k a w ⟨fD,S9,rfl,hit⟩
 refine wp_seq (wp_seq ?_)
 refine Hw (d:=27) (l1:=(lV (iK (iK (fL (fL (dV (dV (dV (dE Tryz.f142))))))))).take 3) (o:=((lV (iK (iK (fL (fL (dV (dV (dV (dE Tryz.f142))))))))).drop 3).headD default) (l2:=(lV (iK (iK (fL (fL (dV (dV (dV (dE Tryz.f142))))))))).drop 4) (y:=.tmp 24) (xs:= #[.tmp 25,.tmp 26]) (ts:= #[3,27]) bu bu bu bu (by rintro ⟨_,_,he,_⟩;rcases he with he|he<;>cases he) bu bu<|hit.ops (hJ fD) (Ll _ seed h fD _) trivial fun a1 w1 RL=>⟨l,RL.val (x:=.tmp 24) bu,?_⟩
 refine It.yield (d:=27) (xs:=[.tmp 25,.tmp 26]) hJ hX (by decide) hy RL ag (s1:=AS.mk [(26,.sl 1 (ah (k9 seed h fD))),(25,ai (fD:Int)),(24,.val (.func (.yield l) #[] #[])),(0,.val (.func (.yield l) #[] #[])),(1,.ptr [ai (h:Int)] 0),(2,.ptr [aw seed] 0),(4,.sl 1 (ah (k9 seed h fD))),(6,ai (fD:Int))] []) bu bu bu _ (fun w2 dI=>?_) (fun w2 dI=>?_)
 ·refine dI.ops (hJ (fD+1)) (IB _ seed h fD _) ⟨rfl,rfl,rfl,rfl,trivial⟩ fun a3 w3 Pf=>?_
  have hv:=Pf.val (x:=.tmp 32) (v:=.bool (decide ((fD:Int)<(h:Int)))) bu
  refine wp_cond_split hv (fun ht=>?_) (fun hf=>?_)
  ·have cW:fD<h:=by have:=of_decide_eq_true ht;omega
   refine wp_skip ?_
   have Wc:=Pf.nL (hJ (fD+1)) (s':=zc (.func (.yield l) #[] #[]) seed h fD (k9 seed h fD)) (bQ.of [.aa [0,1,2,4,6] [11]] bu rfl)
   refine wp_mono (kR _ _ _ _ (It.Un Wc (hJ (fD+1)) (ID _ seed h fD hh cW))) fun e a5 w5 ⟨s',⟨he,hw⟩,Wb⟩=>?_
   subst he
   exact ⟨h-(fD+1),ag,fD+1,ag,rfl,Wb.nL (hJ (fD+1)) hw⟩
  ·have vI:fD=h:=by have:=of_decide_eq_false hf;omega
   subst vI
   refine wp_exit ?_
   exact ⟨.inl rfl,_,.inl Pf⟩
 ·refine dI.ops hX (IC _ seed h fD _) ⟨rfl,rfl,rfl,rfl,trivial⟩ fun a3 w3 Pf=>?_
  have hv:=Pf.val (x:=.tmp 32) (v:=.bool false) bu
  refine wp_cond_false hv (wp_exit ?_)
  exact ⟨.inl rfl,_,.inr Pf⟩
end Go.Proofs.YtjgbhhnghedgdaaGreatDoor
