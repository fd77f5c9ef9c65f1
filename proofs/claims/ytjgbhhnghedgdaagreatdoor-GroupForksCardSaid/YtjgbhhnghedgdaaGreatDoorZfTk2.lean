import Derived.Test.YtjgbhhnghedgdaaGreatDoorZfCb3
set_option linter.all false
namespace Go.Proofs.YtjgbhhnghedgdaaGreatDoor
open Go.RowKit
set_option maxRecDepth 100000
set_option maxHeartbeats 4000000
def Sc (h:Int):Int:=if ck h then 9 else 0
def Nh (h:Int):Int:=if ck h then 0 else h
def LU (seed:UInt64) (h:Int):UInt64:=if ck h then 0 else gq seed h.toNat 0
theorem ph (seed:UInt64) (h:Int):bA Tryz.prog 85 [aw seed,ai h] (.b_ [.agg [ai (Nh h),aw (LU seed h)],ai (Sc h)]):=by
 by_cases hb:ck h
 ·have e1:Sc h=9:=if_pos hb
  have e2:Nh h=0:=if_pos hb
  have e3:LU seed h=0:=if_pos hb
  refine zO Tryz.func85 15<|zq<|zS<|zP 1 [yH [(1,yC (bc (h)))]] [.aa [8,5,4,0,1] [4]] [yI (bc h)]<|du 8 (!!decide (ck h)) (by simp_all)<|bf.pe 1 [{}] [.aa [5,8,4,0,1] [4]] bC (s':=AS.mk [(5,ai 9),(8,ao (!!decide (ck h))),(4,AV.addr 4 0),(0,aw seed),(1,ai h)] [(4,Row.mk 1 false true [ai 0,dY])]) (C:=[2≤2]) bC ⟨ag,trivial⟩<|dk (zV [yJ 0 (Nh h) (by rw [e2]),yK 0 (wv (LU seed h)) (by rw [e3];rfl),yJ 9 (Sc h) (by rw [e1])])
 ·have e1:Sc h=0:=if_neg hb
  have e2:Nh h=h:=if_neg hb
  have e3:LU seed h=gq seed h.toNat 0:=if_neg hb
  have sf:0≤h∧h≤4:=by unfold ck at hb;omega
  rw [e1,e2,e3]
  obtain ⟨k,rfl⟩:=Int.eq_ofNat_of_zero_le sf.1
  have hn:=sZ seed k 0 ag (Nat.two_pow_pos _)
  rw [Int.toNat_natCast]
  generalize gq seed k 0=r at *
  refine zO Tryz.func85 15<|zq<|zS<|zP 1 [yH [(1,yC (bc ((↑k:Int))))]] [.aa [8,5,4,0,1] [4]] [yI (bc ((↑k:Int)))]<|bj 8 (!!decide (ck (↑k:Int))) (by simp_all)<|a6<|zP 1 [yH [(3,yC hn)]] [.aa [5,8,4,0,1] [4]] [yI hn,yL 2 2]<|zR (bL)
theorem iP (leaf:Int) (h:Nat) (hh:h≤4):bA Tryz.prog 95 [ai leaf,ai h] (ao (decide (leaf<0∨((2^h:Nat):Int)≤leaf))):=by
 rcases (ag:h=0∨h=1∨h=2∨h=3∨h=4) with rfl|rfl|rfl|rfl|rfl
 ·by_cases h1:leaf<0
  ·refine zO Tryz.func95 13<|zP 2 [{},{}] [.aa [4,0,1] []] (yM 5 (yT (leaf<0)))<|zR (zV [yB (Value.bool true=Value.bool (decide (leaf<0∨(↑((2:Nat)^0):Int)≤leaf))) (by simp [h1])])
  ·refine zO Tryz.func95 13<|zP 2 [{},yH ([(7,{b:=false})]++yg [3,4,5,6])] [.aa [4,0,1] []] (yM 3 (yF (leaf<0))++ [yO ((0:Int)≤(↑(0:Nat):Int))]++yM 2 (yF (leaf<0)))<|zR (zV [yB (Value.bool (decide (leaf≥IntKind.i64.wrap ((1:Int)*(2:Int)^min (↑(0:Nat):Int).toNat IntKind.i64.bits)))=Value.bool (decide (leaf<0∨(↑((2:Nat)^0):Int)≤leaf))) (by simp [h1];rfl)])
 ·by_cases h1:leaf<0
  ·refine zO Tryz.func95 13<|zP 2 [{},{}] [.aa [4,0,1] []] (yM 5 (yT (leaf<0)))<|zR (zV [yB (Value.bool true=Value.bool (decide (leaf<0∨(↑((2:Nat)^1):Int)≤leaf))) (by simp [h1])])
  ·refine zO Tryz.func95 13<|zP 2 [{},yH ([(7,{b:=false})]++yg [3,4,5,6])] [.aa [4,0,1] []] (yM 3 (yF (leaf<0))++ [yO ((0:Int)≤(↑(1:Nat):Int))]++yM 2 (yF (leaf<0)))<|zR (zV [yB (Value.bool (decide (leaf≥IntKind.i64.wrap ((1:Int)*(2:Int)^min (↑(1:Nat):Int).toNat IntKind.i64.bits)))=Value.bool (decide (leaf<0∨(↑((2:Nat)^1):Int)≤leaf))) (by simp [h1];rfl)])
 ·by_cases h1:leaf<0
  ·refine zO Tryz.func95 13<|zP 2 [{},{}] [.aa [4,0,1] []] (yM 5 (yT (leaf<0)))<|zR (zV [yB (Value.bool true=Value.bool (decide (leaf<0∨(↑((2:Nat)^2):Int)≤leaf))) (by simp [h1])])
  ·refine zO Tryz.func95 13<|zP 2 [{},yH ([(7,{b:=false})]++yg [3,4,5,6])] [.aa [4,0,1] []] (yM 3 (yF (leaf<0))++ [yO ((0:Int)≤(↑(2:Nat):Int))]++yM 2 (yF (leaf<0)))<|zR (zV [yB (Value.bool (decide (leaf≥IntKind.i64.wrap ((1:Int)*(2:Int)^min (↑(2:Nat):Int).toNat IntKind.i64.bits)))=Value.bool (decide (leaf<0∨(↑((2:Nat)^2):Int)≤leaf))) (by simp [h1];rfl)])
 ·by_cases h1:leaf<0
  ·refine zO Tryz.func95 13<|zP 2 [{},{}] [.aa [4,0,1] []] (yM 5 (yT (leaf<0)))<|zR (zV [yB (Value.bool true=Value.bool (decide (leaf<0∨(↑((2:Nat)^3):Int)≤leaf))) (by simp [h1])])
  ·refine zO Tryz.func95 13<|zP 2 [{},yH ([(7,{b:=false})]++yg [3,4,5,6])] [.aa [4,0,1] []] (yM 3 (yF (leaf<0))++ [yO ((0:Int)≤(↑(3:Nat):Int))]++yM 2 (yF (leaf<0)))<|zR (zV [yB (Value.bool (decide (leaf≥IntKind.i64.wrap ((1:Int)*(2:Int)^min (↑(3:Nat):Int).toNat IntKind.i64.bits)))=Value.bool (decide (leaf<0∨(↑((2:Nat)^3):Int)≤leaf))) (by simp [h1];rfl)])
 ·by_cases h1:leaf<0
  ·refine zO Tryz.func95 13<|zP 2 [{},{}] [.aa [4,0,1] []] (yM 5 (yT (leaf<0)))<|zR (zV [yB (Value.bool true=Value.bool (decide (leaf<0∨(↑((2:Nat)^4):Int)≤leaf))) (by simp [h1])])
  ·refine zO Tryz.func95 13<|zP 2 [{},yH ([(7,{b:=false})]++yg [3,4,5,6])] [.aa [4,0,1] []] (yM 3 (yF (leaf<0))++ [yO ((0:Int)≤(↑(4:Nat):Int))]++yM 2 (yF (leaf<0)))<|zR (zV [yB (Value.bool (decide (leaf≥IntKind.i64.wrap ((1:Int)*(2:Int)^min (↑(4:Nat):Int).toNat IntKind.i64.bits)))=Value.bool (decide (leaf<0∨(↑((2:Nat)^4):Int)≤leaf))) (by simp [h1];rfl)])
theorem FH (seed:UInt64) (h:Int):bA Tryz.prog 41 [aw seed,ai h] (.agg [ai (Nh h),aw (LU seed h)]):=by
 refine zO Tryz.func41 14<|zP 3 [{},yH [(2,yC (ph (seed) (h)))],{}] [.aa [5,4,0,1] [4,5]] [yI (ph seed h),yL 2 2,yL 2 2]<|zR (zV [yR (Value.int .i64 (Nh h)),yR (Value.int .u64 (wv (LU seed h)))])
def dv (k:Nat):Mem:=⟨[109,u8 (48+(k:Int))],4,LU (300+u64 k) 4,0⟩
theorem DF (i:Int):bA Tryz.prog 18 [ai i] (.agg (aN (dv (gm i 10)))):=by
 have hm:=ua i (n:=10) ag
 have p2:Nh 4=4:=by decide
 refine zO Tryz.func18 16<|zP 2 [{},{hs:=[(1,yV (ai (↑(gm i (10:Int)):Int))),(2,yV (ai ((48:Int)+(↑(gm i (10:Int)):Int)))),(3,yV (ab (u8 ((48:Int)+(↑(gm i (10:Int)):Int))))),(4,yV (AV.arr (ah [u8 ((48:Int)+(↑(gm i (10:Int)):Int))]))),(5,yV (AV.val (Value.string (ByteArray.mk #[u8 ((48:Int)+(↑(gm i (10:Int)):Int))])))),(8,yV (ai (↑(gm i (10:Int)):Int))),(9,yV (aw (u64 (↑(gm i (10:Int)):Int)))),(10,yV (aw (300+u64 (↑(gm i (10:Int)):Int)))),(11,yC (FH (300+u64 (↑(gm i (10:Int)):Int)) ((4:Int))))],T:=12}] [.aa [2,0] [2]] [yI (qH i ((10:Int)) ag ag),yN ((48:Int)+(↑(gm i (10:Int)):Int)),yI (jf ((48:Int)+(↑(gm i (10:Int)):Int))),yR [ab (u8 ((48:Int)+(↑(gm i (10:Int)):Int)))],yR (ah [u8 ((48:Int)+(↑(gm i (10:Int)):Int))]),yB ((ByteArray.mk #[109]).size+(ByteArray.mk #[u8 ((48:Int)+(↑(gm i (10:Int)):Int))]).size≤9223372036854775807) (Nat.le_of_ble_eq_true rfl),yI (qH i ((10:Int)) ag ag),yI (a8 (↑(gm i (10:Int)):Int)),yR (aw (300+u64 (↑(gm i (10:Int)):Int))),yI (FH (300+u64 (↑(gm i (10:Int)):Int)) ((4:Int))),yL 4 4]<|zR (zV [yR (Value.string (ByteArray.mk (dv (gm i (10:Int))).name.toArray)),yR (Value.int .i64 (Nh (4:Int))),yR (Value.int .u64 (wv (dv (gm i (10:Int))).r)),yR (Value.int .u64 0)])
theorem QK {i:Nat} (h:i<10):gm (i:Int) 10=i:=by
 unfold gm
 rw [Int.emod_eq_of_lt ag ag,Int.emod_eq_of_lt ag ag,Int.toNat_natCast]
theorem fC (i:Nat) (h:i<10):bA Tryz.prog 18 [ai i] (.agg (aN (dv i))):=by
 have:=DF i
 rwa [QK h] at this
def Uj (g:fG):List AV:=[ai g.aC,aw g.head,ai g.bm,.own 4 (ae aN g.aq),.own 7 (ae bk g.aR)]
theorem dD (h:Int) (r:UInt64):bA Tryz.prog 43 [.agg [ai h,aw r]] (.b_ [.own 1 (ah (dP h r)),ai (gG h)]):=by
 have hw:(words [r]).length=8:=by rw [dZ];rfl
 by_cases h1:ck h
 ·have e:gG h=9:=by rw [gG,if_pos h1]
  have ed:dP h r= []:=by rw [dP,if_pos h1]
  refine zO Tryz.func43 16<|zq<|zS<|zQ 1 [yH [(2,yC (dt (h)))]] [yI (dt h)]<|gX 6 (ck h)<|zq<|dk (zV [yB (ah (dP h r)= []) (by rw [ed];rfl),yJ 9 (gG h) (by rw [e])])
 ·have e:gG h=0:=by rw [gG,if_neg h1]
  have ed:dP h r=u8 h::words [r]:=by rw [dP,if_neg h1]
  refine zO Tryz.func43 16<|zq<|zS<|zQ 1 [yH [(2,yC (dt (h)))]] [yI (dt h)]<|dm 6 (ck h)<|a6<|zS<|R8 8 [3] [(2,yV (ab (u8 h))),(3,yV (AV.arr (ah [u8 h]))),(6,yV (AV.arr (aj [r]))),(7,yV (AV.own 1 (ah (words [r])))),(8,yV (AV.arr (ah ([u8 h]++words [r]))))] [yI (jf h),yR [ab (u8 h)],yI (aQ [u8 h]),yR [aw r],yI (kB [r] (by simp only [List.length_cons,List.length_nil];omega)),yI (aQ (words [r])),yR (ah ([u8 h]++words [r])),yL 9 140737488355328]<|al<|bf.tD [.aa [3,2,6,1,0] [15,1]] bC<|zR (zV [yB (ah ([u8 h]++words [r])=ah (dP h r)) (by rw [ed];rfl),yJ 0 (gG h) (by rw [e])])
theorem dq (h:Int) (r:UInt64):bA Tryz.prog 47 [.agg [ai h,aw r]] (.b_ [.own 1 (ah (dP h r)),ai (gG h)]):=by
 have hw:(words [r]).length=8:=by rw [dZ];rfl
 by_cases h1:ck h
 ·have e:gG h=9:=by rw [gG,if_pos h1]
  have ed:dP h r= []:=by rw [dP,if_pos h1]
  refine zO Tryz.func47 17<|zq<|zS<|zP 1 [yH [(2,yC (bc (h)))]] [.aa [7,3,2,1,0] [1]] [yI (bc h)]<|du 7 (!!decide (ck h)) (by simp_all)<|zq<|dk (zV [yB (ah (dP h r)= []) (by rw [ed];rfl),yJ 9 (gG h) (by rw [e])])
 ·have e:gG h=0:=by rw [gG,if_neg h1]
  have ed:dP h r=u8 h::words [r]:=by rw [dP,if_neg h1]
  refine zO Tryz.func47 17<|zq<|zS<|zP 1 [yH [(2,yC (bc (h)))]] [.aa [7,3,2,1,0] [1]] [yI (bc h)]<|bj 7 (!!decide (ck h)) (by simp_all)<|a6<|zS<|R8 8 [3] [(2,yV (ab (u8 h))),(3,yV (AV.arr (ah [u8 h]))),(6,yV (AV.arr (aj [r]))),(7,yV (AV.own 1 (ah (words [r])))),(8,yV (AV.arr (ah ([u8 h]++words [r]))))] [yI (jf h),yR [ab (u8 h)],yI (aQ [u8 h]),yR [aw r],yI (dG [r] (by simp only [List.length_cons,List.length_nil];omega)),yI (aQ (words [r])),yR (ah ([u8 h]++words [r])),yL 9 140737488355328]<|al<|bf.tD [.aa [3,2,7,1,0] [16,1]] bC<|zR (zV [yB (ah ([u8 h]++words [r])=ah (dP h r)) (by rw [ed];rfl),yJ 0 (gG h) (by rw [e])])
structure gW where
 name:List UInt8
 leaf:Int
 fb:List UInt64
 path:List UInt64
def aW (v:gW):List AV:=[di v.name,ai v.leaf,.sl 1 (aj v.fb),.sl 1 (aj v.path)]
structure dj where
 aC:Int
 prev:UInt64
 kind:Int
 name:List UInt8
 kh:Int
 kr:UInt64
 bm:Int
 dep:oD
 cm:UInt64
 target:UInt64
 ak:List gW
def aG (e:dj):List AV:=[ai e.aC,aw e.prev,ai e.kind,di e.name,ai e.kh,aw e.kr,ai e.bm,aw e.dep.cm,aw e.dep.peer,.sl 1 (ah e.dep.box),.sl 1 (ae au e.dep.af),.sl 1 (aj e.dep.ay),ai e.dep.need,aw e.dep.target,aw e.cm,aw e.target,.sl 4 (ae aW e.ak)]
theorem eQ (x:List UInt8) (hx:x.length≤1000):bA Tryz.prog 42 [di x] (ai (eg x)):=by
 by_cases c1:x.length<1
 ·have e:=qG (.inl c1)
  refine zO Tryz.func42 14<|zq<|zS<|zP 1 [yH [(1,yV (ai (↑x.length:Int)))]] [.aa [10,2,0] []] ([yR (ai (↑x.length:Int))]++yM 4 (yT ((↑x.length:Int)<1)))<|zT 10<|zq<|dk (zV [yJ 9 (eg x) (by rw [e])])
 by_cases c3:32<x.length
 ·have e:=qG (.inr c3)
  refine zO Tryz.func42 14<|zq<|zS<|zP 1 [yH ([(1,yV (ai (↑x.length:Int))),(5,{av:=some (ai (↑x.length:Int)),g:=false}),(7,{b:=false})]++yg [4,6])] [.aa [10,2,0] []] ([yR (ai (↑x.length:Int))]++yM 2 (yF ((↑x.length:Int)<1))++ [yR (ai (↑x.length:Int))]++yM 2 (yF ((↑x.length:Int)<1)))<|gX 10 ((↑x.length:Int)>32)<|zq<|dk (zV [yJ 9 (eg x) (by rw [e])])
 by_cases c2:Lib.validD x=false
 ·have e:=zf ag c2
  refine zO Tryz.func42 14<|zq<|zS<|zP 1 [yH ([(1,yV (ai (↑x.length:Int))),(5,{av:=some (ai (↑x.length:Int)),g:=false}),(7,{b:=false})]++yg [4,6])] [.aa [10,2,0] []] ([yR (ai (↑x.length:Int))]++yM 2 (yF ((↑x.length:Int)<1))++ [yR (ai (↑x.length:Int))]++yM 2 (yF ((↑x.length:Int)<1)))<|dm 10 ((↑x.length:Int)>32)<|a6<|zS<|zP 1 [yH [(1,yV (ao (Lib.validD x))),(2,yV (ao true))]] [.aa [13,10,2,0] []] [yI (kC x ag),yB (ao (!Lib.validD x)=ao true) (by rw [c2];rfl)]<|zT 13<|zq<|dk (zV [yJ 6 (eg x) (by rw [e])])
 have c4:Lib.validD x=true:=by simpa using c2
 have e:=Fy ag c4
 refine zO Tryz.func42 14<|zq<|zS<|zP 1 [yH ([(1,yV (ai (↑x.length:Int))),(5,{av:=some (ai (↑x.length:Int)),g:=false}),(7,{b:=false})]++yg [4,6])] [.aa [10,2,0] []] ([yR (ai (↑x.length:Int))]++yM 2 (yF ((↑x.length:Int)<1))++ [yR (ai (↑x.length:Int))]++yM 2 (yF ((↑x.length:Int)<1)))<|dm 10 ((↑x.length:Int)>32)<|a6<|zS<|zP 1 [yH [(1,yV (ao (Lib.validD x))),(2,yV (ao false))]] [.aa [13,10,2,0] []] [yI (kC x ag),yB (ao (!Lib.validD x)=ao false) (by rw [c4];rfl)]<|zF 13<|a6<|zq<|zR (zV [yJ 0 (eg x) (by rw [e])])
def gr (m:Mem):Int:=if eg m.name≠0 then eg m.name else if gG m.h≠0 then gG m.h else if m.used≠0 then 18 else 0
def bU (m:Mem):fG:=if gr m=0 then ⟨0,hash 16 (dP m.h m.r++m.name),1,[m],[]⟩ else ⟨0,0,0,[],[]⟩
instance:Inhabited fG:=⟨⟨0,0,0,[],[]⟩⟩
theorem nZ (h:Int) (r:UInt64):(dP h r).length≤9:=by
 unfold dP
 split
 ·exact Nat.zero_le _
 ·have:(words [r]).length=8:=by rw [dZ];rfl
  rw [List.length_cons];omega
theorem CH (a b:List UInt8) (h:a.length+b.length≤1000000):bA Tryz.prog 45 [.sl 1 [.sl 1 (ah a),.sl 1 (ah b)]] (.own 1 (ah (a++b))):=by
 have:=EL [a,b] (by simp [fJ];omega) (by simp)
 rw [show [a,b].flatten=a++b by simp] at this
 exact this
theorem Cg (m:Mem) (hm:m.name.length≤1000):bA Tryz.prog 19 [.agg (aN m)] (.b_ [.agg (Uj (bU m)),ai (gr m)]):=by
 have hz:=rH m.name hm
 by_cases h1:eg m.name=0
 case neg =>
  have e1:gr m=eg m.name:=if_pos h1
  have e2:bU m=⟨0,0,0,[],[]⟩:=by unfold bU;rw [if_neg ag]
  refine zO Tryz.func19 40<|zq<|zS<|zP 2 [yH [(2,yV (ai (eg m.name)))],yH [(1,yV (ao true))]] [.aa [12,4,3,2,1,0] [2,1]] [yI (eQ m.name hm),yB (ao (eg m.name != (0:Int))=ao true) (by simp [h1])]<|zT 12<|zP 1 [{}] [.aa [3,12,4,2,1,0] [2,1]] [yL 5 5]<|dk (zV [yJ 0 ((bU m).aC) (by rw [e2]),yK 0 (wv (bU m).head) (by rw [e2];rfl),yJ 0 ((bU m).bm) (by rw [e2]),yB (ae aN (bU m).aq= []) (by rw [e2];rfl),yB (ae bk (bU m).aR= []) (by rw [e2];rfl),yJ (eg m.name) (gr m) (by rw [e1])])
 by_cases h2:gG m.h=0
 case neg =>
  have e1:gr m=gG m.h:=by unfold gr;rw [if_neg ag,if_pos h2]
  have e2:bU m=⟨0,0,0,[],[]⟩:=by unfold bU;rw [if_neg ag]
  refine zO Tryz.func19 40<|zq<|zS<|zP 2 [yH [(2,yV (ai (eg m.name)))],yH [(1,yV (ao false))]] [.aa [12,4,3,2,1,0] [2,1]] [yI (eQ m.name hm),yB (ao (eg m.name != (0:Int))=ao false) (by simp [h1])]<|zF 12<|a6<|zP 1 [yH [(2,yC (dD (m.h) (m.r)))]] [.aa [6,5,12,4,3,2,1,0] [1018,2,1]] [yI (dD m.h m.r),yI (aQ (dP m.h m.r))]<|zS<|zQ 1 [yH [(1,yV (ao true))]] [yB (ao (gG m.h != (0:Int))=ao true) (by simp [h2])]<|zT 22<|zP 1 [{}] [.aa [3,22,6,5,12,4,2,1,0] [2,1018,1]] [yL 5 5]<|dk (zV [yJ 0 ((bU m).aC) (by rw [e2]),yK 0 (wv (bU m).head) (by rw [e2];rfl),yJ 0 ((bU m).bm) (by rw [e2]),yB (ae aN (bU m).aq= []) (by rw [e2];rfl),yB (ae bk (bU m).aR= []) (by rw [e2];rfl),yJ (gG m.h) (gr m) (by rw [e1])])
 by_cases h3:m.used=0
 case neg =>
  have e1:gr m=18:=by unfold gr;rw [if_neg ag,if_neg ag,if_pos h3]
  have e2:bU m=⟨0,0,0,[],[]⟩:=by unfold bU;rw [if_neg ag]
  refine zO Tryz.func19 40<|zq<|zS<|zP 2 [yH [(2,yV (ai (eg m.name)))],yH [(1,yV (ao false))]] [.aa [12,4,3,2,1,0] [2,1]] [yI (eQ m.name hm),yB (ao (eg m.name != (0:Int))=ao false) (by simp [h1])]<|zF 12<|a6<|zP 1 [yH [(2,yC (dD (m.h) (m.r)))]] [.aa [6,5,12,4,3,2,1,0] [1018,2,1]] [yI (dD m.h m.r),yI (aQ (dP m.h m.r))]<|zS<|zQ 1 [yH [(1,yV (ao false))]] [yB (ao (gG m.h != (0:Int))=ao false) (by simp [h2])]<|zF 22<|a6<|zS<|zP 1 [yH [(2,yV (ao (m.used != 0)))]] [.aa [27,22,6,5,12,4,3,2,1,0] [1018,2,1]] [yI (cK m.used 0)]<|du 27 (m.used != 0) (by simp_all)<|zP 1 [{}] [.aa [3,27,22,6,5,12,4,2,1,0] [2,1018,1]] [yL 5 5]<|dk (zV [yJ 0 ((bU m).aC) (by rw [e2]),yK 0 (wv (bU m).head) (by rw [e2];rfl),yJ 0 ((bU m).bm) (by rw [e2]),yB (ae aN (bU m).aq= []) (by rw [e2];rfl),yB (ae bk (bU m).aR= []) (by rw [e2];rfl),yJ 18 (gr m) (by rw [e1])])
 have e1:gr m=0:=by unfold gr;rw [if_neg ag,if_neg ag,if_neg (by simp [h3])]
 have e2:bU m=⟨0,hash 16 (dP m.h m.r++m.name),1,[m],[]⟩:=by unfold bU;rw [if_pos e1]
 have hk:=nZ m.h m.r
 refine zO Tryz.func19 40<|zq<|zS<|zP 2 [yH [(2,yV (ai (eg m.name)))],yH [(1,yV (ao false))]] [.aa [12,4,3,2,1,0] [2,1]] [yI (eQ m.name hm),yB (ao (eg m.name != (0:Int))=ao false) (by simp [h1])]<|zF 12<|a6<|zP 1 [yH [(2,yC (dD (m.h) (m.r)))]] [.aa [6,5,12,4,3,2,1,0] [1018,2,1]] [yI (dD m.h m.r),yI (aQ (dP m.h m.r))]<|zS<|zQ 1 [yH [(1,yV (ao false))]] [yB (ao (gG m.h != (0:Int))=ao false) (by simp [h2])]<|zF 22<|a6<|zS<|zP 1 [yH [(2,yV (ao (m.used != 0)))]] [.aa [27,22,6,5,12,4,3,2,1,0] [1018,2,1]] [yI (cK m.used 0)]<|bj 27 (m.used != 0) (by simp_all)<|a6<|zP 2 [yH [(5,yV (AV.own 1 (ah (dP m.h m.r++m.name.toArray.toList)))),(6,yV (aw (hash (16:Int) (dP m.h m.r++m.name.toArray.toList))))],{}] [.aa [3,7,27,22,6,5,12,4,2,1,0] [2,38,1]] [yI hz,yI (CH (dP m.h m.r) m.name.toArray.toList (by simp only [];omega)),yI (aQ (dP m.h m.r++m.name.toArray.toList)),yI (oh ((16:Int)) (dP m.h m.r++m.name.toArray.toList)),yL 5 5]<|zR (zV [yJ 0 ((bU m).aC) (by rw [e2]),yK (wv (hash (16:Int) (dP m.h m.r++m.name.toArray.toList))) (wv (bU m).head) (by rw [e2]),yJ 1 ((bU m).bm) (by rw [e2]),yB ((aN m)=ae aN (bU m).aq) (by rw [e2];rfl),yB (ae bk (bU m).aR= []) (by rw [e2];rfl),yJ 0 (gr m) (by rw [e1])])
def Uk (g:fG):List AV:=[ai g.aC,aw g.head,ai g.bm,.sl 4 (ae aN g.aq),.own 7 (ae bk g.aR)]
theorem Dp (m:Mem) (hm:m.name.length≤1000):bA Tryz.prog 20 [.agg (aN m)] (.b_ [.agg (Uk (bU m)),ai (gr m)]):=by
 have hz:=rH m.name hm
 by_cases h1:eg m.name=0
 case neg =>
  have e1:gr m=eg m.name:=if_pos h1
  have e2:bU m=⟨0,0,0,[],[]⟩:=by unfold bU;rw [if_neg ag]
  refine zO Tryz.func20 36<|zq<|zS<|zP 2 [yH [(2,yV (ai (eg m.name)))],yH [(1,yV (ao true))]] [.aa [11,4,3,2,1,0] [2,1]] [yI (fR m.name hm),yB (ao (eg m.name != (0:Int))=ao true) (by simp [h1])]<|zT 11<|zP 1 [{}] [.aa [3,11,4,2,1,0] [2,1]] [yL 5 5]<|dk (zV [yJ 0 ((bU m).aC) (by rw [e2]),yK 0 (wv (bU m).head) (by rw [e2];rfl),yJ 0 ((bU m).bm) (by rw [e2]),yB (ae aN (bU m).aq= []) (by rw [e2];rfl),yB (ae bk (bU m).aR= []) (by rw [e2];rfl),yJ (eg m.name) (gr m) (by rw [e1])])
 by_cases h2:gG m.h=0
 case neg =>
  have e1:gr m=gG m.h:=by unfold gr;rw [if_neg ag,if_pos h2]
  have e2:bU m=⟨0,0,0,[],[]⟩:=by unfold bU;rw [if_neg ag]
  refine zO Tryz.func20 36<|zq<|zS<|zP 2 [yH [(2,yV (ai (eg m.name)))],yH [(1,yV (ao false))]] [.aa [11,4,3,2,1,0] [2,1]] [yI (fR m.name hm),yB (ao (eg m.name != (0:Int))=ao false) (by simp [h1])]<|zF 11<|a6<|zP 1 [yH [(2,yC (dq (m.h) (m.r)))]] [.aa [6,5,11,4,3,2,1,0] [1017,2,1]] [yI (dq m.h m.r),yI (aQ (dP m.h m.r))]<|zS<|zQ 1 [yH [(1,yV (ao true))]] [yB (ao (gG m.h != (0:Int))=ao true) (by simp [h2])]<|zT 21<|zP 1 [{}] [.aa [3,21,6,5,11,4,2,1,0] [2,1017,1]] [yL 5 5]<|dk (zV [yJ 0 ((bU m).aC) (by rw [e2]),yK 0 (wv (bU m).head) (by rw [e2];rfl),yJ 0 ((bU m).bm) (by rw [e2]),yB (ae aN (bU m).aq= []) (by rw [e2];rfl),yB (ae bk (bU m).aR= []) (by rw [e2];rfl),yJ (gG m.h) (gr m) (by rw [e1])])
 by_cases h3:m.used=0
 case neg =>
  have e1:gr m=18:=by unfold gr;rw [if_neg ag,if_neg ag,if_pos h3]
  have e2:bU m=⟨0,0,0,[],[]⟩:=by unfold bU;rw [if_neg ag]
  refine zO Tryz.func20 36<|zq<|zS<|zP 2 [yH [(2,yV (ai (eg m.name)))],yH [(1,yV (ao false))]] [.aa [11,4,3,2,1,0] [2,1]] [yI (fR m.name hm),yB (ao (eg m.name != (0:Int))=ao false) (by simp [h1])]<|zF 11<|a6<|zP 1 [yH [(2,yC (dq (m.h) (m.r)))]] [.aa [6,5,11,4,3,2,1,0] [1017,2,1]] [yI (dq m.h m.r),yI (aQ (dP m.h m.r))]<|zS<|zQ 1 [yH [(1,yV (ao false))]] [yB (ao (gG m.h != (0:Int))=ao false) (by simp [h2])]<|zF 21<|a6<|zS<|zP 1 [yH [(2,yV (ao (m.used != 0)))]] [.aa [26,21,6,5,11,4,3,2,1,0] [1017,2,1]] [yI (cK m.used 0)]<|du 26 (m.used != 0) (by simp_all)<|zP 1 [{}] [.aa [3,26,21,6,5,11,4,2,1,0] [2,1017,1]] [yL 5 5]<|dk (zV [yJ 0 ((bU m).aC) (by rw [e2]),yK 0 (wv (bU m).head) (by rw [e2];rfl),yJ 0 ((bU m).bm) (by rw [e2]),yB (ae aN (bU m).aq= []) (by rw [e2];rfl),yB (ae bk (bU m).aR= []) (by rw [e2];rfl),yJ 18 (gr m) (by rw [e1])])
 have e1:gr m=0:=by unfold gr;rw [if_neg ag,if_neg ag,if_neg (by simp [h3])]
 have e2:bU m=⟨0,hash 16 (dP m.h m.r++m.name),1,[m],[]⟩:=by unfold bU;rw [if_pos e1]
 have hk:=nZ m.h m.r
 have TH:(ah (dP m.h m.r)).length≤9:=by rw [aB];exact hk
 have xZ:(ah m.name.toArray.toList).length≤1000:=by rw [aB];exact hm
 refine zO Tryz.func20 36<|zq<|zS<|zP 2 [yH [(2,yV (ai (eg m.name)))],yH [(1,yV (ao false))]] [.aa [11,4,3,2,1,0] [2,1]] [yI (fR m.name hm),yB (ao (eg m.name != (0:Int))=ao false) (by simp [h1])]<|zF 11<|a6<|zP 1 [yH [(2,yC (dq (m.h) (m.r)))]] [.aa [6,5,11,4,3,2,1,0] [1017,2,1]] [yI (dq m.h m.r),yI (aQ (dP m.h m.r))]<|zS<|zQ 1 [yH [(1,yV (ao false))]] [yB (ao (gG m.h != (0:Int))=ao false) (by simp [h2])]<|zF 21<|a6<|zS<|zP 1 [yH [(2,yV (ao (m.used != 0)))]] [.aa [26,21,6,5,11,4,3,2,1,0] [1017,2,1]] [yI (cK m.used 0)]<|bj 26 (m.used != 0) (by simp_all)<|a6<|zS<|yw 7 [3] [(3,{av:=some (AV.arr (ah (dP m.h m.r++m.name.toArray.toList))),b:=false}),(4,yV (aw (hash (16:Int) (dP m.h m.r++m.name.toArray.toList))))] [yB (ah (dP m.h m.r)++ah m.name.toArray.toList=ah (dP m.h m.r++m.name.toArray.toList)) (da _ _),yB (cC (ah m.name.toArray.toList)) (gl _),yO (((ah (dP m.h m.r)).length+(ah m.name.toArray.toList).length)*1≤140737488355328),yI (iN ((16:Int)) (dP m.h m.r++m.name.toArray.toList) (by simp only [List.length_append];omega)),yR (AV.agg (aN m)),yR (AV.sl 4 (aN m)),yL 5 5]<|al<|bf.tD [.aa [3,26,21,6,11,4,2,1,0] [2,1]] bC<|zR (zV [yJ 0 ((bU m).aC) (by rw [e2]),yK (wv (hash (16:Int) (dP m.h m.r++m.name.toArray.toList))) (wv (bU m).head) (by rw [e2]),yJ 1 ((bU m).bm) (by rw [e2]),yB ((aN m)=ae aN (bU m).aq) (by rw [e2];rfl),yB (ae bk (bU m).aR= []) (by rw [e2];rfl),yJ 0 (gr m) (by rw [e1])])
theorem oJ {l:List Mem} {i:Nat} (h:i<l.length):List.take 4 (List.drop (i*4) (ae aN l))=aN (l.getD i default):=jz (e:=4) (fun _=>rfl) h
def wz (d:oD):Prop:=d.cm=0∧d.peer=0∧d.box.length=0∧d.af.length=0∧d.ay.length=0∧d.need=0∧d.target=0
instance (d:oD):Decidable (wz d):=inferInstanceAs (Decidable (_∧_∧_∧_∧_∧_∧_))
def fW (e:dj):Prop:=(e.kind=1∨e.kind=2∨e.name= [])∧(e.kind=1∨e.kh=0∧e.kr=0)∧(e.kind=3∨e.bm=0)∧(e.kind=4∨wz e.dep)∧(e.kind=5∨e.cm=0∧e.target=0)∧e.dep.target=0
instance (e:dj):Decidable (fW e):=inferInstanceAs (Decidable (_∧_∧_∧_∧_∧_))
def fZ (d:oD):Int:=if 1024<d.box.length then 8 else if ow d.af.length d.need then 9 else if d.ay.length≠d.af.length then 4 else ff (nt d.af) d.af.length
def wC (d:oD):List fP:=[aL d.cm,aL d.peer,fj d.box]++(bG (u64 d.af.length)::d.af.map cL)++(bG (u64 d.ay.length)::d.ay.map aL)++ [aL (u64 d.need)]
def ft (e:dj):Int:=if e.kind=1 then (if eg e.name≠0 then eg e.name else gG e.kh) else if e.kind=2 then eg e.name else if e.kind=3 then (if e.bm<1∨8<e.bm then 9 else 0) else if e.kind=4 then fZ e.dep else if e.target=0 then 9 else 0
def gv (e:dj):List fP:=if e.kind=1 then [cL e.name,fj (dP e.kh e.kr)] else if e.kind=2 then [cL e.name] else if e.kind=3 then [aL (u64 e.bm)] else if e.kind=4 then wC e.dep else [aL e.cm,aL e.target]
def fV (k:Int):Nat:=if k=1∨k=5 then 2 else if k=4 then 6 else 1
def eO (e:dj):Int:=if e.kind<1∨5<e.kind then 3 else if ¬fW e then 4 else if e.aC<1∨2147483647<e.aC then 9 else ft e
def fY (e:dj):List fP:=bG (u64 (3+fV e.kind)):: [aL (u64 e.aC),aL e.prev,aL (u64 e.kind)]++gv e
def dM (e:dj):List UInt8:=if eO e=0 then g_ (fY e) else []
def cO (e:dj):UInt64:=hash 16 (dM e)
def jh (e:dj):List (List fP):=if e.kind=4 then [[aL e.dep.cm],[aL e.dep.peer],[fj e.dep.box],bG (u64 e.dep.af.length)::e.dep.af.map cL,bG (u64 e.dep.ay.length)::e.dep.ay.map aL,[aL (u64 e.dep.need)]] else (gv e).map fun x=>[x]
theorem zg {x:List UInt8} (h:eg x=0):1≤x.length∧x.length≤32:=by
 apply Classical.byContradiction
 intro q
 have:=qG (x:=x) ag
 omega
theorem I4 {x:List UInt8} (h:eg x=0):Lib.validD x=true:=by
 have:=zg h
 cases e:Lib.validD x with
 | true=>rfl
 | false=>have:=zf (x:=x) ag e;omega
theorem JQ {l:List (List UInt8)} {i:Nat} (h:nt l i=0):eg (l.getD i default)=0:=by
 apply Classical.byContradiction
 intro q
 rw [JS rfl q] at h
 exact q h
theorem t_ {x:List UInt8} (h:eg x=0):fk (cL x):=.text (by have:=zg h;omega) (I4 h)
structure R7 (d:oD):Prop where
 box:d.box.length≤1024
 n1:1≤d.af.length
 n8:d.af.length≤8
 need:1≤d.need∧d.need≤d.af.length
 SD:d.ay.length=d.af.length
 CW:∀x∈d.af,eg x=0
theorem KL {d:oD} (h:fZ d=0):R7 d:=by
 unfold fZ at h
 by_cases c1:1024<d.box.length
 ·rw [if_pos c1] at h;omega
 rw [if_neg c1] at h
 by_cases c2:ow d.af.length d.need
 ·rw [if_pos c2] at h;omega
 rw [if_neg c2] at h
 by_cases c3:d.ay.length≠d.af.length
 ·rw [if_pos c3] at h;omega
 rw [if_neg c3] at h
 unfold ow at c2
 refine ⟨ag,ag,ag,ag,ag,fun x hx=>?_⟩
 obtain ⟨i,hi,rfl⟩:=List.mem_iff_getElem.1 hx
 have:=JQ (sq h i hi)
 rwa [List.getD_eq_getElem?_getD,List.getElem?_eq_getElem hi] at this
theorem mY {T:Type} {f:T->fP} {l:List T} (h:∀x∈l,fk (f x)):∀y∈l.map f,fk y:=fun y hy=>by
 obtain ⟨x,hx,rfl⟩:=List.mem_map.1 hy
 exact h x hx
theorem Jn (h:Int) (r:UInt64):fk (fj (dP h r)):=.byte (by have:=nZ h r;omega)
theorem lG {x:fP} (h:fk x):fg x.kind∧x.cJ.length≤10000:=by
 refine ⟨?_,by have:=h.cJ;omega⟩
 rcases h.kind with q|q|q
 ·exact .inl q
 ·exact .inr (.inl q)
 ·exact .inr (.inr (.inl q))
theorem ng (n:UInt64):fg (bG n).kind∧(bG n).cJ.length≤10000:=⟨.inr (.inr (.inr rfl)),Nat.zero_le _⟩
structure PO (e:dj):Prop where
 VG:K7 ([[aL (u64 e.aC)],[aL e.prev],[aL (u64 e.kind)]]++jh e)
 X0:ff (pX ([[aL (u64 e.aC)],[aL e.prev],[aL (u64 e.kind)]]++jh e)) (3+(jh e).length)=0
 arr:qb ([[aL (u64 e.aC)],[aL e.prev],[aL (u64 e.kind)]]++jh e)=fY e
 XC:fm (fY e)=0
 len:(fY e).length≤30
 UG:∀x∈fY e,fg x.kind∧x.cJ.length≤10000
 n6:(jh e).length≤6
theorem D7 {e:dj} (h:ft e=0) (h4:e.kind≠4):∀x∈gv e,fk x:=by
 intro x hx
 unfold ft at h
 unfold gv at hx
 by_cases k1:e.kind=1
 ·rw [if_pos k1] at h hx
  have hn:eg e.name=0:=by
   apply Classical.byContradiction;intro q;rw [if_pos q] at h;exact q h
  simp only [List.mem_cons,List.not_mem_nil,or_false] at hx
  rcases hx with rfl|rfl
  ·exact t_ hn
  ·exact Jn _ _
 rw [if_neg k1] at h hx
 by_cases k2:e.kind=2
 ·rw [if_pos k2] at h hx
  obtain rfl:=List.mem_singleton.1 hx
  exact t_ h
 rw [if_neg k2] at h hx
 by_cases k3:e.kind=3
 ·rw [if_pos k3] at hx
  obtain rfl:=List.mem_singleton.1 hx
  exact .uint _
 rw [if_neg k3] at hx
 rw [if_neg h4] at hx
 simp only [List.mem_cons,List.not_mem_nil,or_false] at hx
 rcases hx with rfl|rfl
 ·exact .uint _
 ·exact .uint _
theorem ME {e:dj} (hk:1≤e.kind∧e.kind≤5) (h4:e.kind≠4):(gv e).length=fV e.kind:=by
 unfold gv fV
 by_cases k1:e.kind=1
 ·rw [if_pos k1,if_pos (.inl k1)];rfl
 rw [if_neg k1]
 by_cases k2:e.kind=2
 ·rw [if_pos k2,if_neg ag,if_neg h4];rfl
 rw [if_neg k2]
 by_cases k3:e.kind=3
 ·rw [if_pos k3,if_neg ag,if_neg h4];rfl
 rw [if_neg k3,if_neg h4,if_pos ag];rfl
theorem E_ (k:Int):1≤fV k∧fV k≤6:=by unfold fV;split<;>(try split)<;>omega
theorem z6 {f:Nat->Int}:∀ {n:Nat},(∀j,j<n->f j=0)->ff f n=0
 | 0,_=>rfl
 | n+1,h=>by
  show (if _ then _ else _)=_
  rw [if_neg (by rw [z6 fun j hj=>h j ag];decide)]
  exact h n ag
theorem Pk {vs:List (List fP)} (h:∀v∈vs,fm v=0):ff (pX vs) vs.length=0:=z6 fun j hj=>by
 show fm (vs.getD j default)=0
 rw [List.getD_eq_getElem?_getD,List.getElem?_eq_getElem hj]
 exact h _ (List.getElem_mem hj)
theorem AX {n:UInt64} {xs:List fP} (hx:∀x∈xs,fk x) (hn:wv n=xs.length) (h1:1≤xs.length) (h2:xs.length≤100):fm (bG n::xs)=0:=E6 hx hn h1 h2
theorem Az {e:dj} (h:eO e=0):PO e:=by
 unfold eO at h
 by_cases k0:e.kind<1∨5<e.kind
 ·rw [if_pos k0] at h;omega
 rw [if_neg k0] at h
 by_cases c1:¬fW e
 ·rw [if_pos c1] at h;omega
 rw [if_neg c1] at h
 by_cases c2:e.aC<1∨2147483647<e.aC
 ·rw [if_pos c2] at h;omega
 rw [if_neg c2] at h
 have ht:=E_ e.kind
 have hw:wv (u64 (3+fV e.kind))=(3+fV e.kind:Nat):=by rw [show (3:Int)+fV e.kind=((3+fV e.kind:Nat):Int) by omega,rF];omega
 have h3:∀x∈ [aL (u64 e.aC),aL e.prev,aL (u64 e.kind)],fk x:=fun x hx=>by
  simp only [List.mem_cons,List.not_mem_nil,or_false] at hx
  rcases hx with rfl|rfl|rfl<;>exact .uint _
 by_cases k4:e.kind=4
 ·have hd:fZ e.dep=0:=by
   unfold ft at h
   rwa [if_neg ag,if_neg ag,if_neg ag,if_pos k4] at h
  have ok:=KL hd
  have n1:=ok.n1
  have n8:=ok.n8
  have WI:=ok.SD
  have hH:∀x∈e.dep.af.map cL,fk x:=mY fun x hx=>t_ (ok.CW x hx)
  have hD:∀x∈e.dep.ay.map aL,fk x:=mY fun x _=>.uint x
  have hB:fk (fj e.dep.box):=.byte ok.box
  have wH:wv (u64 (e.dep.af.length:Int))=(e.dep.af.map cL).length:=by rw [rF,List.length_map];omega
  have wD:wv (u64 (e.dep.ay.length:Int))=(e.dep.ay.map aL).length:=by rw [rF,List.length_map];omega
  have tk:fV e.kind=6:=by unfold fV;rw [if_neg ag,if_pos k4]
  have hv:jh e= [[aL e.dep.cm],[aL e.dep.peer],[fj e.dep.box],bG (u64 e.dep.af.length)::e.dep.af.map cL,bG (u64 e.dep.ay.length)::e.dep.ay.map aL,[aL (u64 e.dep.need)]]:=if_pos k4
  have hf:gv e=wC e.dep:=by unfold gv;rw [if_neg ag,if_neg ag,if_neg ag,if_pos k4]
  have FT:(e.dep.af.map cL).length=e.dep.af.length:=List.length_map ..
  have B0:(e.dep.ay.map aL).length=e.dep.af.length:=by rw [List.length_map];exact WI
  have each:∀v∈ [[aL (u64 e.aC)],[aL e.prev],[aL (u64 e.kind)]]++jh e,v.length≤20∧fm v=0∧ ∀x∈v,fg x.kind∧x.cJ.length≤10000:=by
   have one:∀x,fk x-> [x].length≤20∧fm [x]=0∧ ∀y∈ [x],fg y.kind∧y.cJ.length≤10000:=fun x hx=>⟨by simp,AW hx,fun y hy=>by obtain rfl:=List.mem_singleton.1 hy;exact lG hx⟩
   intro v HW
   rw [hv] at HW
   simp only [List.cons_append,List.nil_append,List.mem_cons,List.not_mem_nil,or_false] at HW
   rcases HW with rfl|rfl|rfl|rfl|rfl|rfl|rfl|rfl|rfl
   ·exact one _ (.uint _)
   ·exact one _ (.uint _)
   ·exact one _ (.uint _)
   ·exact one _ (.uint _)
   ·exact one _ (.uint _)
   ·exact one _ hB
   ·refine ⟨by rw [List.length_cons,FT];omega,AX hH wH ag ag,fun y hy=>?_⟩
    rcases List.mem_cons.1 hy with rfl|hy
    ·exact ng _
    ·exact lG (hH y hy)
   ·refine ⟨by rw [List.length_cons,B0];omega,AX hD wD ag ag,fun y hy=>?_⟩
    rcases List.mem_cons.1 hy with rfl|hy
    ·exact ng _
    ·exact lG (hD y hy)
   ·exact one _ (.uint _)
  have P5:([[aL (u64 e.aC)],[aL e.prev],[aL (u64 e.kind)]]++jh e).length=9:=by rw [hv];rfl
  have ha:qb ([[aL (u64 e.aC)],[aL e.prev],[aL (u64 e.kind)]]++jh e)=fY e:=by
   unfold qb fY
   rw [P5,hf,hv,tk]
   unfold wC
   simp
  have Mj:(fY e).length=10+2*e.dep.af.length:=by
   unfold fY
   rw [hf]
   unfold wC
   simp only [List.length_cons,List.length_append,FT,B0,List.length_nil]
   omega
  refine ⟨⟨by rw [P5];omega,fun v h=>(each v h).1,fun v h x hx=>((each v h).2.2 x hx).1,fun v h x hx=>((each v h).2.2 x hx).2⟩,?_,ha,?_,ag,?_,by rw [hv];exact Nat.le_refl _⟩
  ·have:=Pk fun v h=>(each v h).2.1
   rw [P5] at this
   rw [show 3+(jh e).length=9 by rw [hv];rfl]
   exact this
  ·refine Lu ag ?_
   have w9:wv (u64 (3+fV e.kind))=9:=by rw [hw,tk];rfl
   have e1:fY e=bG (u64 (3+fV e.kind))::([aL (u64 e.aC),aL e.prev,aL (u64 e.kind),aL e.dep.cm,aL e.dep.peer,fj e.dep.box]++((bG (u64 e.dep.af.length)::e.dep.af.map cL)++((bG (u64 e.dep.ay.length)::e.dep.ay.map aL)++ [aL (u64 e.dep.need)]))):=by
    unfold fY
    rw [hf]
    unfold wC
    simp
   have l6:∀x∈ [aL (u64 e.aC),aL e.prev,aL (u64 e.kind),aL e.dep.cm,aL e.dep.peer,fj e.dep.box],fk x:=fun x hx=>by
    simp only [List.mem_cons,List.not_mem_nil,or_false] at hx
    rcases hx with rfl|rfl|rfl|rfl|rfl|rfl
    ·exact .uint _
    ·exact .uint _
    ·exact .uint _
    ·exact .uint _
    ·exact .uint _
    ·exact hB
   rw [e1,Iy _ ag ag,w9,nO,uS (by simp) l6 (show ((6:Nat):Int)<9 by omega) (ag:1+6≤500)]
   show lP ([]++ [(9:Int)-6]) (1+6) _=_
   rw [nO,xH (by simp) hH wH ag (by decide) ag]
   show lP ([]++ [(9:Int)-6-1]) (1+6+(bG (u64 e.dep.af.length)::e.dep.af.map cL).length) _=_
   rw [List.length_cons,FT,nO,xH (by simp) hD wD ag (by decide) ag]
   show lP ([]++ [(([aL (u64 e.dep.need)]:List fP).length:Int)]) _ [aL (u64 e.dep.need)]=_
   have TF:(bG (u64 (e.dep.ay.length:Int))::e.dep.ay.map aL).length=e.dep.af.length+1:=by rw [List.length_cons,B0]
   rw [TF]
   exact uT (f:=[]) (xs:=[aL (u64 e.dep.need)]) (Nat.zero_le _) (fun x hx=>by obtain rfl:=List.mem_singleton.1 hx;exact .uint _) Nat.zero_lt_one (by show _+1≤_;omega)
  ·intro x hx
   rw [←ha] at hx
   unfold qb at hx
   rcases List.mem_cons.1 hx with rfl|hx
   ·exact ng _
   ·obtain ⟨v,OD,OC⟩:=List.mem_flatten.1 hx
    exact (each v OD).2.2 x OC
 ·have JO:=D7 h k4
  have Mj:=ME (e:=e) ag k4
  have hv:jh e=(gv e).map fun x=>[x]:=if_neg k4
  have UU:∀x∈ [aL (u64 e.aC),aL e.prev,aL (u64 e.kind)]++gv e,fk x:=fun x hx=>by
   rcases List.mem_append.1 hx with hx|hx
   ·exact h3 x hx
   ·exact JO x hx
  have Vc:([aL (u64 e.aC),aL e.prev,aL (u64 e.kind)]++gv e).length=3+fV e.kind:=by rw [List.length_append,Mj];rfl
  obtain ⟨v1,v2,v3,v4⟩:=pQ UU ag ag
  have hm:([aL (u64 e.aC),aL e.prev,aL (u64 e.kind)]++gv e).map (fun x=>[x])= [[aL (u64 e.aC)],[aL e.prev],[aL (u64 e.kind)]]++jh e:=by rw [List.map_append,hv];rfl
  rw [hm] at v1 v2 v3 v4
  have ha:qb ([[aL (u64 e.aC)],[aL e.prev],[aL (u64 e.kind)]]++jh e)=fY e:=by
   rw [v4,Vc]
   unfold fY
   rw [show ((3+fV e.kind:Nat):Int)=3+fV e.kind by omega];rfl
  have OS:(fY e).length=1+(3+fV e.kind):=by
   rw [←ha,v4,List.length_cons,Vc];omega
  refine ⟨v1,?_,ha,by rw [←ha];exact v3,ag,fun x hx=>?_,by rw [hv,List.length_map];omega⟩
  ·rw [List.length_append] at v2
   exact v2
  ·rw [←ha,v4] at hx
   rcases List.mem_cons.1 hx with rfl|hx
   ·exact ng _
   ·exact lG (UU x hx)
def cT (l:List Mem) (h:List UInt8):Int:=if (∃m∈l,m.name=h) then (l.findIdx (fun m=>m.name == h):Int) else -1
theorem zk {l:List Mem} {h:List UInt8} (hn:∀j,j<l.length->(l.getD j default).name≠h):cT l h= -1:=by
 unfold cT
 rw [if_neg]
 rintro ⟨m,hm,e⟩
 obtain ⟨j,hj,e2⟩:=List.getElem_of_mem hm
 exact hn j hj (by rw [List.getD_eq_getElem?_getD,List.getElem?_eq_getElem hj];show l[j].name=h;rw [e2];exact e)
theorem zm {l:List Mem} {h:List UInt8} {i:Nat} (hi:i<l.length) (hn:∀j,j<i->(l.getD j default).name≠h) (e:(l.getD i default).name=h):cT l h=i:=by
 rw [List.getD_eq_getElem?_getD,List.getElem?_eq_getElem hi] at e
 have e:l[i].name=h:=e
 unfold cT
 rw [if_pos ⟨l[i],List.getElem_mem hi,e⟩]
 have:l.findIdx (fun m=>m.name == h)=i:=(List.findIdx_eq hi).2 ⟨by simpa using e,fun j hj=>by
  have:=hn j hj
  rw [List.getD_eq_getElem?_getD,List.getElem?_eq_getElem ag] at this
  simpa using this⟩
 rw [this]
theorem vv (seed:UInt64) (h:Int):bA Tryz.prog 97 [aw seed,ai h] (.lu 142 [.ptr [ai h] 0,.ptr [aw seed] 0]):=by
 refine zO Tryz.func97 6<|zP 2 [{},{}] [.aa [4,3,2,0,1] []] []<|zR (zV [yR [AV.ptr [ai h] 0,AV.ptr [aw seed] 0]])
def k8 (seed:UInt64) (h i:Nat):List UInt64:=(List.range (2^(h-i))).map (gq seed i)
theorem qK (seed:UInt64) (h i:Nat):(k8 seed h i).length=2^(h-i):=by simp [k8]
theorem qL (seed:UInt64) (h i k:Nat) (hk:k<2^(h-i)):(k8 seed h i).getD k 0=gq seed i k:=by simp [k8,hk]
def zr (yv:Value) (seed:UInt64) (h:Nat) (fF:Nat) (l:List UInt64):AS :=
 ⟨[(0,.val yv),(1,.ptr [ai (h:Int)] 0),(2,.ptr [aw seed] 0),(4,.ref 11),(6,ai (fF:Int))],[(11,⟨1,true,false,aj l⟩)]⟩
theorem L6 (yv:Value) (seed:UInt64) (h:Nat) (hh:h≤4):bf Tryz.prog 63 (Code.seq (iG (dz Tryz.f142)) (Code.seq (iG (dO (dz Tryz.f142))) (Code.seq (iG (dO (dO (dz Tryz.f142)))) .skip))) (fun e s'=>e= .normal∧bO s' (zr yv seed h 0 (k8 seed h 0))) ⟨lq 0 [.val yv,.ptr [ai (h:Int)] 0,.ptr [aw seed] 0],[]⟩:=by
 have hl:=qK seed h 0
 have ic:∀k:Nat,k<2^h->(k8 seed h 0).getD k 0=combine k (bI seed k 18):=fun k hk=>qL seed h 0 k hk
 rw [Nat.sub_zero] at hl
 have hp:2^h≤16:=Nat.pow_le_pow_right (by decide) hh
 have DO:IntKind.i64.wrap (1*2^min ((h:Nat):Int).toNat IntKind.i64.bits)=((2^h:Nat):Int):=by
  rcases (ag:h=0∨h=1∨h=2∨h=3∨h=4) with rfl|rfl|rfl|rfl|rfl<;>decide +kernel
 generalize k8 seed h 0=L at *
 generalize 2^h=m at *
 refine zP 1 [yH [(1,yV (ai ↑m)),(2,{av:=some (AV.arr (aj (List.replicate m 0))),k:=m,m:=m})]] [.aa [4,0,1,2] [11]] ([yI (yc DO),yO ((0:Int)≤(↑h:Int)),yB (List.replicate m (dY)=aj (List.replicate m 0)) (uE _)]++yM 2 (yR (↑m:Int))++ [yO (m≤m),yO (8*m≤281474976710656),yB (m≤maxLen) (by unfold maxLen;omega)])<|zS<|zQ 1 [yH [(1,{k:=m})]] [yB ((aj (List.replicate m 0)).length=m) (by simp only [aE,List.length_replicate])]<|zB 0 (zL (fun (k:Nat)=>(⟨[(13,ai ↑m),(4,AV.ref 11),(0,AV.val yv),(1,AV.ptr [ai ↑h] 0),(2,AV.ptr [aw seed] 0),(14,ai k)],[(11,⟨1,true,false,aj (cR m L k)⟩)]⟩:AS)) (fun k=>(k≤m)) (fun k=>(m-k)) (0) ?_ (zW [.aa [13,4,0,1,2,14] [11]]) ?_)
 ·omega
 intro k hk
 have hf:=kJ hl hk
 refine zq<|zS (zD 15 ((↑k:Int)<(↑m:Int)) (fun g=>?_) (fun g=>?_))
 ·have e1:=my hl (ag:k<m)
  have e2:=ic k ag
  refine a6<|zS<|zB 1<|zq<|zX (yH [(4,yC (s9 (seed) ((↑k:Int)))),(5,{k:=k}),(6,yV (AV.arr (aj ((cR m L k).set k (combine (↑k:Int) (bI seed (↑k:Int) 18))))))]) [yI (s9 seed ((↑k:Int))),yR (↑k:Int),yB (k<(aj (cR m L k)).length) (by simp only [aE];omega),yB ((aj (cR m L k)).set k (aw (combine (↑k:Int) (bI seed (↑k:Int) 18)))=aj ((cR m L k).set k (combine (↑k:Int) (bI seed (↑k:Int) 18)))) (kL _ _ _),yB (k+1≤(aj (cR m L k)).length) (by simp only [aE];omega)]<|aK<|al<|zX (yH [(0,yV (ai ((↑k:Int)+1)))]) [yN ((↑k:Int)+1)] (aF (k+1) ag ag (eX [.aa [13,4,0,1,2,14] [11]] [] [11] [yB (aj ((cR m L k).set k (combine (↑k:Int) (bI seed (↑k:Int) 18)))=aj (cR m L (k+1))) (congrArg aj (by rw [←e2];exact e1))]))
 ·have e:k=m:=ag
  subst e
  have e1:=ld hl
  rw [e1]
  refine zE 0<|a7<|aP<|bp<|al<|zq<|zK ?_
  exact ⟨rfl,bO.of [.aa [0,1,2,4,6] [11]] (s1:=zr yv seed h 0 L) bC rfl⟩
theorem Ji (yv:Value) (seed:UInt64) (h fF:Nat) (hh:h≤4) (TC:fF<h):bf Tryz.prog 63 (dO (fN (fN (dO (dO (dO (dz Tryz.f142))))))) (fun e s'=>e= .normal∧bO s' (zr yv seed h (fF+1) (k8 seed h (fF+1)))) (zr yv seed h fF (k8 seed h fF)):=by
 have hl:=qK seed h fF
 have B0:=qK seed h (fF+1)
 have em:2^(h-fF)=2*2^(h-(fF+1)):=by rw [show h-fF=h-(fF+1)+1 by omega,Nat.pow_succ,Nat.mul_comm]
 have hp:2^(h-(fF+1))≤16:=Nat.le_trans (Nat.pow_le_pow_right (by decide) (by omega:h-(fF+1)≤4)) (by decide)
 have ic:∀k:Nat,k<2^(h-(fF+1))->(k8 seed h (fF+1)).getD k 0=ia ((fF+1:Nat):Int) ((k8 seed h fF).getD (2*k) 0) ((k8 seed h fF).getD (2*k+1) 0):=fun k hk=>by
  rw [qL seed h (fF+1) k hk,qL seed h fF (2*k) ag,qL seed h fF (2*k+1) ag];rfl
 generalize k8 seed h fF=L at *
 generalize k8 seed h (fF+1)=L2 at *
 rw [em] at hl
 clear em
 generalize 2^(h-(fF+1))=m at *
 have hq:IntKind.i64.wrap ((L.length:Int).tdiv 2)=(m:Int):=by
  rw [hl,Int.tdiv_eq_ediv_of_nonneg ag,fw ag ag];omega
 show bf _ _ _ _ (AS.mk [(0,.val yv),(1,.ptr [ai (h:Int)] 0),(2,.ptr [aw seed] 0),(4,.ref 11),(6,ai (fF:Int))] [(11,Row.mk 1 true false (aj L))])
 refine zS<|zB 3<|zP 1 [yH [(1,{k:=L.length}),(2,yV (ai ↑m)),(3,{av:=some (AV.arr (aj (List.replicate m 0))),k:=m,m:=m})]] [.aa [7,0,1,2,4,6] [38,11]] ([yI (aE L),yI (yc hq),yO ((2:Int)≠(0:Int)),yB (List.replicate m (dY)=aj (List.replicate m 0)) (uE _)]++yM 2 (yR (↑m:Int))++ [yO (m≤m),yO (8*m≤281474976710656),yB (m≤maxLen) (by unfold maxLen;omega)])<|zS<|zQ 1 [yH [(1,{k:=m})]] [yB ((aj (List.replicate m 0)).length=m) (by simp only [aE,List.length_replicate])]<|zB 4 (zL (fun (k:Nat)=>(⟨[(40,ai ↑m),(7,AV.ref 38),(0,AV.val yv),(1,AV.ptr [ai ↑h] 0),(2,AV.ptr [aw seed] 0),(4,AV.ref 11),(6,ai ↑fF),(41,ai k)],[(11,⟨1,true,false,aj L⟩),(38,⟨1,true,false,aj (cR m L2 k)⟩)]⟩:AS)) (fun k=>(k≤m)) (fun k=>(m-k)) (0) ?_ (zW [.aa [40,7,0,1,2,4,6,41] [11,38]]) ?_)
 ·omega
 intro k hk
 have hf:=kJ B0 hk
 refine zq<|zS (zD 42 ((↑k:Int)<(↑m:Int)) (fun g=>?_) (fun g=>?_))
 ·have e1:=my B0 (ag:k<m)
  have e2:=ic k ag
  have w1:IntKind.i64.wrap ((fF:Int)+1)=((fF+1:Nat):Int):=by rw [fw ag ag];omega
  have w2:IntKind.i64.wrap (2*(k:Int))=((2*k:Nat):Int):=by rw [fw ag ag];omega
  have w3:IntKind.i64.wrap (((2*k:Nat):Int)+1)=((2*k+1:Nat):Int):=by rw [fw ag ag];omega
  refine a6<|zS<|zB 5<|zq<|zX ({hs:=[(3,yV (ai (↑(fF+1):Int))),(6,yV (ai (↑(2*k):Int))),(7,{k:=2*k}),(8,yV (aw (L.getD (2*k) 0))),(11,yV (ai (↑(2*k):Int))),(12,yV (ai (↑(2*k+1):Int))),(13,{k:=2*k+1}),(14,yV (aw (L.getD (2*k+1) 0))),(15,yV (aw (ia (↑(fF+1):Int) (L.getD (2*k) 0) (L.getD (2*k+1) 0)))),(16,{k:=k}),(17,yV (AV.arr (aj ((cR m L2 k).set k (ia (↑(fF+1):Int) (L.getD (2*k) 0) (L.getD (2*k+1) 0))))))],T:=16}) [yB (ai (IntKind.i64.wrap ((↑fF:Int)+1))=ai (↑(fF+1):Int)) (eG ag ag),yB (ai (IntKind.i64.wrap ((2:Int)*(↑k:Int)))=ai (↑(2*k):Int)) (eG ag ag),yR (↑(2*k):Int),yB (2*k<(aj L).length) (by simp only [aE];omega),yB ((aj L)[2*k]?=some (aw (L.getD (2*k) 0))) (eM ag),yB (ai (IntKind.i64.wrap ((2:Int)*(↑k:Int)))=ai (↑(2*k):Int)) (eG ag ag),yB (ai (IntKind.i64.wrap ((↑(2*k):Int)+1))=ai (↑(2*k+1):Int)) (eG ag ag),yR (↑(2*k+1):Int),yB (2*k+1<(aj L).length) (by simp only [aE];omega),yB ((aj L)[2*k+1]?=some (aw (L.getD (2*k+1) 0))) (eM ag),yI (pR (↑(fF+1):Int) (L.getD (2*k) 0) (L.getD (2*k+1) 0)),yR (↑k:Int),yB (k<(aj (cR m L2 k)).length) (by simp only [aE];omega),yB ((aj (cR m L2 k)).set k (aw (ia (↑(fF+1):Int) (L.getD (2*k) 0) (L.getD (2*k+1) 0)))=aj ((cR m L2 k).set k (ia (↑(fF+1):Int) (L.getD (2*k) 0) (L.getD (2*k+1) 0)))) (kL _ _ _),yB (k+1≤(aj (cR m L2 k)).length) (by simp only [aE];omega)]<|aK<|al<|zX (yH [(0,yV (ai ((↑k:Int)+1)))]) [yN ((↑k:Int)+1)] (aF (k+1) ag ag (eX [.aa [40,7,0,1,2,4,6,41] [11,38]] [] [38] [yB (aj ((cR m L2 k).set k (ia (↑(fF+1):Int) (L.getD (2*k) 0) (L.getD (2*k+1) 0)))=aj (cR m L2 (k+1))) (congrArg aj (by rw [←e2];exact e1))]))
 ·have e:k=m:=ag
  subst e
  have e1:=ld B0
  rw [e1]
  refine zE 4<|a7<|aP<|bp<|al<|zX {} []<|aK<|al<|zX (yH [(1,yV (ai ((↑fF:Int)+1)))]) [yN ((↑fF:Int)+1)] ?_
  exact ⟨rfl,bO.of [.wU 38 11,.aa [0,1,2,4,6] [11]] (s1:=AS.mk [(0,.val yv),(1,.ptr [ai (h:Int)] 0),(2,.ptr [aw seed] 0),(4,.ref 11),(6,ai ((fF:Int)+1))] [(11,Row.mk 1 true false (aj L2))]) bC (by unfold zr;rw [show ((fF+1:Nat):Int)=(fF:Int)+1 by omega])⟩
theorem Gt {P:Program} {x y z B:Code} {Q Q':Exit->Act->World->Prop} {K:Act->World->Prop} {a:Act} {w:World} (h:C8 P (.seq x (.seq y (.seq z .skip))) Q a w) (hQ:∀e a w,Q e a w->e= .normal∧K a w) (hB:∀a w,K a w->B.wp P Q' a w):(Code.seq x (.seq y (.seq z B))).wp P Q' a w:=by
 refine wp_seq (wp_mono (kP x _ _ _ h) fun e a w he=>?_)
 cases e with
 | normal =>
  refine wp_seq (wp_mono (kP y _ _ _ he) fun e a w he=>?_)
  cases e with
  | normal =>
   refine wp_seq (wp_mono (kP z _ _ _ he) fun e a w he=>?_)
   cases e with
   | normal=>exact hB _ _ (hQ _ _ _ he).2
   | _=>cases (hQ _ _ _ he).1
  | _=>cases (hQ _ _ _ he).1
 | _=>cases (hQ _ _ _ he).1
def lR:Code->List Oper
 | .region _ ops _=>ops.toList
 | _=>[]
theorem L7 (yv:Value) (seed:UInt64) (h fF:Nat) (l:List UInt64):kn Tryz.prog 63 (lR (iG (iG (fN (fN (dO (dO (dO (dz Tryz.f142))))))))) [] ((lR (iG (iG (fN (fN (dO (dO (dO (dz Tryz.f142))))))))).take 3) 0 (zr yv seed h fF l) =
  some (AS.mk [(26,.ref 11),(25,ai (fF:Int)),(24,.val yv),(0,.val yv),(1,.ptr [ai (h:Int)] 0),(2,.ptr [aw seed] 0),(4,.ref 11),(6,ai (fF:Int))] [(11,Row.mk 1 true false (aj l))],[]):=by kernel_rfl
theorem Jg (yv:Value) (seed:UInt64) (h fF:Nat) (l:List UInt64):kn Tryz.prog 63 (lR (iG (iG (fN (fN (dO (dO (dO (dz Tryz.f142))))))))) [] ((lR (iG (iG (fN (fN (dO (dO (dO (dz Tryz.f142))))))))).drop 4) 4 (lO (AS.mk [(26,.ref 11),(25,ai (fF:Int)),(24,.val yv),(0,.val yv),(1,.ptr [ai (h:Int)] 0),(2,.ptr [aw seed] 0),(4,.ref 11),(6,ai (fF:Int))] [(11,Row.mk 1 true false (aj l))]) 27 (ao true)) =
  some (AS.mk [(32,ao (decide ((fF:Int)<(h:Int)))),(31,ao (decide ((fF:Int)<(h:Int)))),(30,ai (h:Int)),(29,ai (fF:Int)),(28,ao true),(27,ao true),(26,.ref 11),(25,ai (fF:Int)),(24,.val yv),(0,.val yv),(1,.ptr [ai (h:Int)] 0),(2,.ptr [aw seed] 0),(4,.ref 11),(6,ai (fF:Int))] [(11,Row.mk 1 true false (aj l))],[true=true,true=true,true=true,true=true]):=by kernel_rfl
theorem Jh (yv:Value) (seed:UInt64) (h fF:Nat) (l:List UInt64):kn Tryz.prog 63 (lR (iG (iG (fN (fN (dO (dO (dO (dz Tryz.f142))))))))) [(5,{g:=false}),(6,{g:=false}),(7,{g:=false}),(8,{b:=false})] ((lR (iG (iG (fN (fN (dO (dO (dO (dz Tryz.f142))))))))).drop 4) 4 (lO (AS.mk [(26,.ref 11),(25,ai (fF:Int)),(24,.val yv),(0,.val yv),(1,.ptr [ai (h:Int)] 0),(2,.ptr [aw seed] 0),(4,.ref 11),(6,ai (fF:Int))] [(11,Row.mk 1 true false (aj l))]) 27 (ao false)) =
  some (AS.mk [(32,ao false),(31,.val (.tuple #[])),(30,.val (.tuple #[])),(29,.val (.tuple #[])),(28,ao false),(27,ao false),(26,.ref 11),(25,ai (fF:Int)),(24,.val yv),(0,.val yv),(1,.ptr [ai (h:Int)] 0),(2,.ptr [aw seed] 0),(4,.ref 11),(6,ai (fF:Int))] [(11,Row.mk 1 true false (aj l))],[false=false,false=false,false=false,false=false]):=by kernel_rfl
theorem It.val {n:Nat} {J:(Nat->Prop)->(Nat->Prop)->World->Prop} {s:AS} {a:Act} {w:World} {x:Operand} {v:Value} (h:It n J s a w) (hx:bq s x= .val v):a.eval x=v:=by
 obtain ⟨wb,Z,φ,ms,h1,-⟩:=h
 exact bF (hx ▸ h1.bq x)
theorem BL (seed:UInt64) (h:Nat) (hh:h≤4):yq Tryz.prog 142 [.ptr [ai (h:Int)] 0,.ptr [aw seed] 0] (fun i=>[ai (i:Int),.sl 1 (aj (k8 seed h i))]) (h+1):=by
 refine yq.qE (n:=63) Tryz.func142 (c:=(dz Tryz.f142)) bC bC bC (by simp) ?_
 intro l J X hJ hX hy a w hit
 have eb:(dz Tryz.f142)= .seq (iG (dz Tryz.f142)) (.seq (iG (dO (dz Tryz.f142))) (.seq (iG (dO (dO (dz Tryz.f142)))) (dO (dO (dO (dz Tryz.f142)))))):=by kernel_rfl
 have eB:dO (dO (dO (dz Tryz.f142)))= .block 2 (.loop (.seq (.seq (.region 7 (lR (iG (iG (fN (fN (dO (dO (dO (dz Tryz.f142))))))))).toArray false) (.cond (.tmp 32) .skip (.exit 2))) (dO (fN (fN (dO (dO (dO (dz Tryz.f142))))))))):=by kernel_rfl
 have To:=It.UH hit (hJ 0) (L6 (.func (.yield l) #[] #[]) seed h hh)
 rw [eb]
 refine Gt (K:=It 63 (J 0) (zr (.func (.yield l) #[] #[]) seed h 0 (k8 seed h 0))) To (fun e a w ⟨s',⟨he,hw⟩,hi⟩=>⟨he,hi.pA (hJ 0) hw⟩) fun a w P9=>?_
 rw [eB]
 refine wp_block (FD (fun k a w=>∃fF,fF≤h∧k=h-fF∧It 63 (J fF) (zr (.func (.yield l) #[] #[]) seed h fF (k8 seed h fF)) a w) h ⟨0,ag,ag,P9⟩ ?_)
 rintro k a w ⟨fF,TC,rfl,hit⟩
 refine wp_seq (wp_seq ?_)
 refine H8 (d:=27) (l1:=(lR (iG (iG (fN (fN (dO (dO (dO (dz Tryz.f142))))))))).take 3) (o:=((lR (iG (iG (fN (fN (dO (dO (dO (dz Tryz.f142))))))))).drop 3).headD default) (l2:=(lR (iG (iG (fN (fN (dO (dO (dO (dz Tryz.f142))))))))).drop 4) (y:=.tmp 24) (xs:= #[.tmp 25,.tmp 26]) (ts:= #[3,27]) bC bC bC bC (by rintro ⟨_,_,he,_⟩;rcases he with he|he<;>cases he) bC bC<|hit.ops (hJ fF) (L7 _ seed h fF _) trivial fun a1 w1 Sr=>⟨l,Sr.val (x:=.tmp 24) bC,?_⟩
 refine It.yield (d:=27) (xs:=[.tmp 25,.tmp 26]) hJ hX (by decide) hy Sr ag (s1:=AS.mk [(26,.sl 1 (aj (k8 seed h fF))),(25,ai (fF:Int)),(24,.val (.func (.yield l) #[] #[])),(0,.val (.func (.yield l) #[] #[])),(1,.ptr [ai (h:Int)] 0),(2,.ptr [aw seed] 0),(4,.sl 1 (aj (k8 seed h fF))),(6,ai (fF:Int))] []) bC bC bC _ (fun w2 dc=>?_) (fun w2 dc=>?_)
 ·refine dc.ops (hJ (fF+1)) (Jg _ seed h fF _) ⟨rfl,rfl,rfl,rfl,trivial⟩ fun a3 w3 P8=>?_
  have hv:=P8.val (x:=.tmp 32) (v:=.bool (decide ((fF:Int)<(h:Int)))) bC
  refine wp_cond_split hv (fun ht=>?_) (fun hf=>?_)
  ·have cZ:fF<h:=by have:=of_decide_eq_true ht;omega
   refine wp_skip ?_
   have Wy:=P8.pA (hJ (fF+1)) (s':=zr (.func (.yield l) #[] #[]) seed h fF (k8 seed h fF)) (bO.of [.aa [0,1,2,4,6] [11]] bC rfl)
   refine wp_mono (kP _ _ _ _ (It.UH Wy (hJ (fF+1)) (Ji _ seed h fF hh cZ))) fun e a5 w5 ⟨s',⟨he,hw⟩,Wx⟩=>?_
   subst he
   exact ⟨h-(fF+1),ag,fF+1,ag,rfl,Wx.pA (hJ (fF+1)) hw⟩
  ·have vM:fF=h:=by have:=of_decide_eq_false hf;omega
   subst vM
   refine wp_exit ?_
   exact ⟨.inl rfl,_,.inl P8⟩
 ·refine dc.ops hX (Jh _ seed h fF _) ⟨rfl,rfl,rfl,rfl,trivial⟩ fun a3 w3 P8=>?_
  have hv:=P8.val (x:=.tmp 32) (v:=.bool false) bC
  refine wp_cond_false hv (wp_exit ?_)
  exact ⟨.inl rfl,_,.inr P8⟩
end Go.Proofs.YtjgbhhnghedgdaaGreatDoor
