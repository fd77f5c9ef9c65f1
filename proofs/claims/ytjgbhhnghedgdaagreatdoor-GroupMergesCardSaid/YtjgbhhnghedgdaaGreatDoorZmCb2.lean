import Derived.Test.YtjgbhhnghedgdaaGreatDoorZmRec5
set_option linter.all false
namespace Go.Proofs.YtjgbhhnghedgdaaGreatDoor
open Go.RowKit
set_option maxRecDepth 100000
set_option maxHeartbeats 4000000
def eO (k:Int):Prop:=k=1∨k=3∨k=4∨k=5
def qO (x:fJ):Int:=if x.kind=4∧Lib.validD x.cI=false then 6 else 0
theorem Ce (fr:List Int) (c:Nat) (x:fJ) (h:qO x=0) (hk:x.kind≠6) (hx:x.kind=5->wv x.num≤512) (hf:fr.length≤1000) (gJ:∀k∈fr,-1000≤k∧k≤1000) (hc:c≤1000000) (hd:x.cI.length≤1000000):gm Tryz.prog 173 [.addr 1000000000000 0,.agg (aY x)] (Cg fr c) (ai 0) (Cg (lW fr x) (c+1)):=by
 have dC:=FI fr c x hk hx hf gJ hc
 by_cases h4:x.kind=4
 ·have hv:Lib.validD x.cI=true:=by
   cases e:Lib.validD x.cI with
   | true=>rfl
   | false=>unfold qO at h;rw [if_pos ⟨h4,e⟩] at h;omega
  refine nj Tryz.func173 52<|zq<|zS<|zP 1 [yH [(6,yV (ao (Lib.validD x.cI)))]] [.aa [15,4,3,0,1] [3,1000000000000,5]] (yM 3 (yB ((x.kind == (4:Int))=true) eg)++ [yI (kp x.cI ah)]++yM 2 (yB ((x.kind == (4:Int))=true) eg))<|bj 15 (!Lib.validD x.cI) (by simp_all)<|aW<|zS<|zQ 1 [yH [(1,{av:=some (ao false),ln:=[(1000000000000,1000000000000),(5,5)],ho:=[(1000000000000,Row.mk 1 false true [AV.ref 5,ai ↑c]),(5,Row.mk 3 true false (ae bA fr))]})]] [yI (mV fr c ah),yB ([AV.ref 5,ai ↑c].length= [AV.ref 5,ai ↑c].length∧0< [AV.ref 5,ai ↑c].length) ⟨rfl,Nat.succ_pos _⟩]<|zF 17<|aW<|zP 2 [yH [(2,{av:=some (AV.bk []),ln:=[(1000000000000,1000000000000),(5,5)],ho:=[(1000000000000,Row.mk 1 false true [AV.ref 5,ai (↑(c+1):Int)]),(5,Row.mk 3 true false (ae bA (lW fr x)))]})],{}] [.aa [4,17,15,3,0,1] [1000000000000,5,3]] [yI dC,yB ([AV.ref 5,ai ↑c].length= [AV.ref 5,ai (↑(c+1):Int)].length∧0< [AV.ref 5,ai (↑(c+1):Int)].length) ⟨rfl,Nat.succ_pos _⟩]<|zR (zG [] [yR (Value.int .i64 0),yR [AV.ref 5,ai (↑(c+1):Int)],yR (ae bA (lW fr x))])
 ·refine nj Tryz.func173 52<|zq<|zS<|zP 1 [yH ([(8,{b:=false})]++yg [4,5,6,7])] [.aa [15,4,3,0,1] [3,1000000000000,5]] (yM 5 (yB ((x.kind == (4:Int))=false) bD))<|zF 15<|aW<|zS<|zQ 1 [yH [(1,{av:=some (ao false),ln:=[(1000000000000,1000000000000),(5,5)],ho:=[(1000000000000,Row.mk 1 false true [AV.ref 5,ai ↑c]),(5,Row.mk 3 true false (ae bA fr))]})]] [yI (mV fr c ah),yB ([AV.ref 5,ai ↑c].length= [AV.ref 5,ai ↑c].length∧0< [AV.ref 5,ai ↑c].length) ⟨rfl,Nat.succ_pos _⟩]<|zF 17<|aW<|zP 2 [yH [(2,{av:=some (AV.bk []),ln:=[(1000000000000,1000000000000),(5,5)],ho:=[(1000000000000,Row.mk 1 false true [AV.ref 5,ai (↑(c+1):Int)]),(5,Row.mk 3 true false (ae bA (lW fr x)))]})],{}] [.aa [4,17,15,3,0,1] [1000000000000,5,3]] [yI dC,yB ([AV.ref 5,ai ↑c].length= [AV.ref 5,ai (↑(c+1):Int)].length∧0< [AV.ref 5,ai (↑(c+1):Int)].length) ⟨rfl,Nat.succ_pos _⟩]<|zR (zG [] [yR (Value.int .i64 0),yR [AV.ref 5,ai (↑(c+1):Int)],yR (ae bA (lW fr x))])
theorem zU (fr:List Int) (c:Nat) (x:fJ) (h:qO x≠0) (hd:x.cI.length≤1000000):gm Tryz.prog 173 [.addr 1000000000000 0,.agg (aY x)] (Cg fr c) (ai 6) (Cg fr c):=by
 have h2:x.kind=4∧Lib.validD x.cI=false:=by
  apply Classical.byContradiction
  intro q
  exact h (if_neg q)
 obtain ⟨h4,hv⟩:=h2
 refine nj Tryz.func173 52<|zq<|zS<|zP 1 [yH [(6,yV (ao (Lib.validD x.cI)))]] [.aa [15,4,3,0,1] [3,1000000000000,5]] (yM 3 (yB ((x.kind == (4:Int))=true) eg)++ [yI (kp x.cI ah)]++yM 2 (yB ((x.kind == (4:Int))=true) eg))<|dm 15 (!Lib.validD x.cI) (by simp_all)<|zq<|dd (zG [] [yR (Value.int .i64 6),yR [AV.ref 5,ai ↑c],yR (ae bA fr)])
def gQ (x:fJ):Bool:=if x.kind=3∨x.kind=4 then decide (x.num=0) else x.cI == []
theorem jg (x:fJ) (hk:eO x.kind) (hd:x.cI.length≤1000000):bC Tryz.prog 172 [.agg (aY x)] (ao (gQ x)):=by
 rcases hk with h|h|h|h
 ·have e:gQ x=(x.cI == []):=if_neg ah
  refine zO Tryz.func172 34<|zq<|zS<|zq<|zB 0<|zS<|zP 1 [{}] [.aa [5,4,2,1,0] [1]] []<|bj 5 (x.kind == (3:Int)) bD<|zX {} []<|ak<|bj 5 (x.kind == (4:Int)) bD<|zP 1 [{}] [.aa [11,5,4,2,1,0] [1]] []<|bj 11 (x.kind == (8:Int)) bD<|zq<|bj 21 (x.kind == (7:Int)) bD<|zK<|aM<|ak<|zP 1 [yH [(2,yV (ao (x.cI == [])))]] [.aa [2,21,11,5,4,1,0] [1]] [yI (eU x.cI [])]<|zR (zV [yB (Value.bool (x.cI == [])=Value.bool (gQ x)) (by rw [e])])
 ·have e:gQ x=decide (x.num=0):=if_pos ah
  refine zO Tryz.func172 34<|zq<|zS<|zq<|zB 0<|zS<|zP 1 [{}] [.aa [5,4,2,1,0] [1]] []<|dm 5 (x.kind == (3:Int)) eg<|aW<|dm 5 (x.kind == (3:Int)) eg<|zP 1 [yH [(2,yV (ao (x.num == 0)))]] [.aa [2,5,4,1,0] [1]] [yI (fw x.num 0)]<|zR<|bc<|aN (zV [yB (Value.bool (x.num == 0)=Value.bool (gQ x)) (by rw [e];rfl)])
 ·have e:gQ x=decide (x.num=0):=if_pos ah
  refine zO Tryz.func172 34<|zq<|zS<|zq<|zB 0<|zS<|zP 1 [{}] [.aa [5,4,2,1,0] [1]] []<|bj 5 (x.kind == (3:Int)) bD<|zX {} []<|ak<|dm 5 (x.kind == (4:Int)) eg<|zP 1 [yH [(2,yV (ao (x.num == 0)))]] [.aa [2,5,4,1,0] [1]] [yI (fw x.num 0)]<|zR<|bc<|aN (zV [yB (Value.bool (x.num == 0)=Value.bool (gQ x)) (by rw [e];rfl)])
 ·have e:gQ x=(x.cI == []):=if_neg ah
  refine zO Tryz.func172 34<|zq<|zS<|zq<|zB 0<|zS<|zP 1 [{}] [.aa [5,4,2,1,0] [1]] []<|bj 5 (x.kind == (3:Int)) bD<|zX {} []<|ak<|bj 5 (x.kind == (4:Int)) bD<|zP 1 [{}] [.aa [11,5,4,2,1,0] [1]] []<|bj 11 (x.kind == (8:Int)) bD<|zq<|bj 21 (x.kind == (7:Int)) bD<|zK<|aM<|ak<|zP 1 [yH [(2,yV (ao (x.cI == [])))]] [.aa [2,21,11,5,4,1,0] [1]] [yI (eU x.cI [])]<|zR (zV [yB (Value.bool (x.cI == [])=Value.bool (gQ x)) (by rw [e])])
def nf (fr:List Int) (c:Nat) (x:fJ):Int:=if 0<c∧fr.length=0 then 2 else if fc c fr.length x.kind≠0 then fc c fr.length x.kind else if gQ x=false then 4 else if 1024<x.cI.length then 8 else if x.kind=5∧512<wv x.num then 8 else qO x
theorem F_ (fr:List Int) (c:Nat) (x:fJ) (h:nf fr c x=0) (hk:eO x.kind) (hf:fr.length≤1000) (gJ:∀k∈fr,-1000≤k∧k≤1000) (hc:c≤1000000) (hd:x.cI.length≤1000000):gm Tryz.prog 162 [.addr 1000000000000 0,.agg (aY x)] (Cg fr c) (ai 0) (Cg (lW fr x) (c+1)):=by
 have n1:¬(0<c∧fr.length=0):=fun q=>by unfold nf at h;rw [if_pos q] at h;omega
 have h2:nf fr c x=if fc c fr.length x.kind≠0 then fc c fr.length x.kind else if gQ x=false then 4 else if 1024<x.cI.length then 8 else if x.kind=5∧512<wv x.num then 8 else qO x:=if_neg n1
 have n2:fc c fr.length x.kind=0:=Classical.byContradiction fun q=>q (by rw [h2,if_pos q] at h;exact h)
 rw [if_neg ah] at h2
 have n3:gQ x=true:=by
  cases e:gQ x with
  | true=>rfl
  | false=>rw [h2,if_pos e] at h;omega
 rw [if_neg (by rw [n3];decide)] at h2
 have n4:¬1024<x.cI.length:=fun q=>by rw [h2,if_pos q] at h;omega
 rw [if_neg n4] at h2
 have n5:¬(x.kind=5∧512<wv x.num):=fun q=>by rw [h2,if_pos q] at h;omega
 rw [if_neg n5] at h2
 have n6:qO x=0:=ah
 have dC:=Ce fr c x n6 (by rcases hk with q|q|q|q<;>omega) (fun q=>ah) hf gJ hc hd
 have OP:decide (0<c∧fr.length=0)=false:=decide_eq_false n1
 by_cases h5:x.kind=5
 ·refine nj Tryz.func162 44<|zq<|zS<|zP 1 [yH [(3,{av:=some (ao (decide (0<c∧fr.length=0))),ln:=[(1000000000000,1000000000000),(5,5)],ho:=[(1000000000000,Row.mk 1 false true [AV.ref 5,ai ↑c]),(5,Row.mk 3 true false (ae bA fr))]})]] [.aa [9,4,3,0,1] [1000000000000,5,3]] [yI (gi fr c ah),yB ([AV.ref 5,ai ↑c].length= [AV.ref 5,ai ↑c].length∧0< [AV.ref 5,ai ↑c].length) (by simp [n2])]<|bj 9 (decide (0<c∧fr.length=0)) (by assumption)<|aW<|zS<|zP 2 [{hs:=[(5,{av:=some (ai (fc c fr.length x.kind)),ln:=[(1000000000000,1000000000000),(5,5)],ho:=[(1000000000000,Row.mk 1 false true [AV.ref 5,ai ↑c]),(5,Row.mk 3 true false (ae bA fr))]})],T:=5},yH [(1,yV (ao false))]] [.aa [17,5,9,4,3,0,1] [1000000000000,5,3]] [yI (iw fr c x.kind ah),yB ([AV.ref 5,ai ↑c].length= [AV.ref 5,ai ↑c].length∧0< [AV.ref 5,ai ↑c].length) (by simp [n2]),yB (ao (fc c fr.length x.kind != (0:Int))=ao false) (by simp [n2])]<|zF 17<|aW<|zS<|zP 1 [yH [(1,yV (ao (gQ x)))]] [.aa [21,17,5,9,4,3,0,1] [1000000000000,5,3]] [yI (jg x hk hd)]<|bj 21 (!gQ x) (by simp_all)<|aW<|zS<|zP 1 [yH [(2,yV (ai (↑x.cI.length:Int)))]] [.aa [25,21,17,5,9,4,3,0,1] [1000000000000,5,3]] [yR (ai (↑x.cI.length:Int))]<|dq 25 ((↑x.cI.length:Int)>1024)<|aW<|zS<|zP 1 [{}] [.aa [38,25,21,17,5,9,4,3,0,1] [1000000000000,5,3]] (yM 4 (yB ((x.kind == (5:Int))=true) eg)++yM 4 (yR true))<|dq 38 (wv x.num>512)<|aW<|zP 1 [{hs:=[(4,{av:=some (ai 0),ln:=[(1000000000000,1000000000000),(5,5)],ho:=[(1000000000000,Row.mk 1 false true [AV.ref 5,ai (↑(c+1):Int)]),(5,Row.mk 3 true false (ae bA (lW fr x)))]})],T:=4}] [.aa [4,38,25,21,17,5,9,3,0,1] [1000000000000,5,3]] [yI dC,yB ([AV.ref 5,ai ↑c].length= [AV.ref 5,ai (↑(c+1):Int)].length∧0< [AV.ref 5,ai (↑(c+1):Int)].length) (by simp [n2])]<|zR (zG [] [yR (Value.int .i64 0),yR [AV.ref 5,ai (↑(c+1):Int)],yR (ae bA (lW fr x))])
 ·have Gi:x.kind≠6:=by rcases hk with q|q|q|q<;>omega
  refine nj Tryz.func162 44<|zq<|zS<|zP 1 [yH [(3,{av:=some (ao (decide (0<c∧fr.length=0))),ln:=[(1000000000000,1000000000000),(5,5)],ho:=[(1000000000000,Row.mk 1 false true [AV.ref 5,ai ↑c]),(5,Row.mk 3 true false (ae bA fr))]})]] [.aa [9,4,3,0,1] [1000000000000,5,3]] [yI (gi fr c ah),yB ([AV.ref 5,ai ↑c].length= [AV.ref 5,ai ↑c].length∧0< [AV.ref 5,ai ↑c].length) (by simp [n2])]<|bj 9 (decide (0<c∧fr.length=0)) (by assumption)<|aW<|zS<|zP 2 [{hs:=[(5,{av:=some (ai (fc c fr.length x.kind)),ln:=[(1000000000000,1000000000000),(5,5)],ho:=[(1000000000000,Row.mk 1 false true [AV.ref 5,ai ↑c]),(5,Row.mk 3 true false (ae bA fr))]})],T:=5},yH [(1,yV (ao false))]] [.aa [17,5,9,4,3,0,1] [1000000000000,5,3]] [yI (iw fr c x.kind ah),yB ([AV.ref 5,ai ↑c].length= [AV.ref 5,ai ↑c].length∧0< [AV.ref 5,ai ↑c].length) (by simp [n2]),yB (ao (fc c fr.length x.kind != (0:Int))=ao false) (by simp [n2])]<|zF 17<|aW<|zS<|zP 1 [yH [(1,yV (ao (gQ x)))]] [.aa [21,17,5,9,4,3,0,1] [1000000000000,5,3]] [yI (jg x hk hd)]<|bj 21 (!gQ x) (by simp_all)<|aW<|zS<|zP 1 [yH [(2,yV (ai (↑x.cI.length:Int)))]] [.aa [25,21,17,5,9,4,3,0,1] [1000000000000,5,3]] [yR (ai (↑x.cI.length:Int))]<|dq 25 ((↑x.cI.length:Int)>1024)<|aW<|zS<|zP 1 [yH ([(7,{b:=false}),(12,{b:=false})]++yg [4,5,6,9,10,11])] [.aa [38,25,21,17,5,9,4,3,0,1] [1000000000000,5,3]] (yM 4 (yB ((x.kind == (5:Int))=false) bD)++yM 4 (yB ((x.kind == (6:Int))=false) bD))<|zF 38<|aW<|zP 1 [{hs:=[(4,{av:=some (ai 0),ln:=[(1000000000000,1000000000000),(5,5)],ho:=[(1000000000000,Row.mk 1 false true [AV.ref 5,ai (↑(c+1):Int)]),(5,Row.mk 3 true false (ae bA (lW fr x)))]})],T:=4}] [.aa [4,38,25,21,17,5,9,3,0,1] [1000000000000,5,3]] [yI dC,yB ([AV.ref 5,ai ↑c].length= [AV.ref 5,ai (↑(c+1):Int)].length∧0< [AV.ref 5,ai (↑(c+1):Int)].length) (by simp [n2])]<|zR (zG [] [yR (Value.int .i64 0),yR [AV.ref 5,ai (↑(c+1):Int)],yR (ae bA (lW fr x))])
theorem C3 (fr:List Int) (c:Nat) (x:fJ) (h:nf fr c x≠0) (hk:eO x.kind) (hf:fr.length≤1000) (hc:c≤1000000) (hd:x.cI.length≤1000000):gm Tryz.prog 162 [.addr 1000000000000 0,.agg (aY x)] (Cg fr c) (ai (nf fr c x)) (Cg fr c):=by
 have _:=hc
 by_cases n1:0<c∧fr.length=0
 ·have e:nf fr c x=2:=if_pos n1
  have OP:decide (0<c∧fr.length=0)=true:=decide_eq_true n1
  refine nj Tryz.func162 44<|zq<|zS<|zP 1 [yH [(3,{av:=some (ao (decide (0<c∧fr.length=0))),ln:=[(1000000000000,1000000000000),(5,5)],ho:=[(1000000000000,Row.mk 1 false true [AV.ref 5,ai ↑c]),(5,Row.mk 3 true false (ae bA fr))]})]] [.aa [9,4,3,0,1] [1000000000000,5,3]] [yI (gi fr c ah),yB ([AV.ref 5,ai ↑c].length= [AV.ref 5,ai ↑c].length∧0< [AV.ref 5,ai ↑c].length) ⟨rfl,Nat.succ_pos _⟩]<|dm 9 (decide (0<c∧fr.length=0)) (by assumption)<|zq<|dd (zG [] [yJ 2 (nf fr c x) (by rw [e]),yR [AV.ref 5,ai ↑c],yR (ae bA fr)])
 have OP:decide (0<c∧fr.length=0)=false:=decide_eq_false n1
 have h2:nf fr c x=if fc c fr.length x.kind≠0 then fc c fr.length x.kind else if gQ x=false then 4 else if 1024<x.cI.length then 8 else if x.kind=5∧512<wv x.num then 8 else qO x:=if_neg n1
 by_cases n2:fc c fr.length x.kind=0
 case neg =>
  rw [if_pos n2] at h2
  refine nj Tryz.func162 44<|zq<|zS<|zP 1 [yH [(3,{av:=some (ao (decide (0<c∧fr.length=0))),ln:=[(1000000000000,1000000000000),(5,5)],ho:=[(1000000000000,Row.mk 1 false true [AV.ref 5,ai ↑c]),(5,Row.mk 3 true false (ae bA fr))]})]] [.aa [9,4,3,0,1] [1000000000000,5,3]] [yI (gi fr c ah),yB ([AV.ref 5,ai ↑c].length= [AV.ref 5,ai ↑c].length∧0< [AV.ref 5,ai ↑c].length) (by simp [n2])]<|bj 9 (decide (0<c∧fr.length=0)) (by assumption)<|aW<|zS<|zP 2 [{hs:=[(5,{av:=some (ai (fc c fr.length x.kind)),ln:=[(1000000000000,1000000000000),(5,5)],ho:=[(1000000000000,Row.mk 1 false true [AV.ref 5,ai ↑c]),(5,Row.mk 3 true false (ae bA fr))]})],T:=5},yH [(1,yV (ao true))]] [.aa [17,5,9,4,3,0,1] [1000000000000,5,3]] [yI (iw fr c x.kind ah),yB ([AV.ref 5,ai ↑c].length= [AV.ref 5,ai ↑c].length∧0< [AV.ref 5,ai ↑c].length) (by simp [n2]),yB (ao (fc c fr.length x.kind != (0:Int))=ao true) (by simp [n2])]<|zT 17<|zq<|dd (zG [] [yJ (fc c fr.length x.kind) (nf fr c x) (by rw [h2]),yR [AV.ref 5,ai ↑c],yR (ae bA fr)])
 rw [if_neg ah] at h2
 cases n3:gQ x with
 | false =>
  rw [if_pos n3] at h2
  refine nj Tryz.func162 44<|zq<|zS<|zP 1 [yH [(3,{av:=some (ao (decide (0<c∧fr.length=0))),ln:=[(1000000000000,1000000000000),(5,5)],ho:=[(1000000000000,Row.mk 1 false true [AV.ref 5,ai ↑c]),(5,Row.mk 3 true false (ae bA fr))]})]] [.aa [9,4,3,0,1] [1000000000000,5,3]] [yI (gi fr c ah),yB ([AV.ref 5,ai ↑c].length= [AV.ref 5,ai ↑c].length∧0< [AV.ref 5,ai ↑c].length) (by simp [n2])]<|bj 9 (decide (0<c∧fr.length=0)) (by assumption)<|aW<|zS<|zP 2 [{hs:=[(5,{av:=some (ai (fc c fr.length x.kind)),ln:=[(1000000000000,1000000000000),(5,5)],ho:=[(1000000000000,Row.mk 1 false true [AV.ref 5,ai ↑c]),(5,Row.mk 3 true false (ae bA fr))]})],T:=5},yH [(1,yV (ao false))]] [.aa [17,5,9,4,3,0,1] [1000000000000,5,3]] [yI (iw fr c x.kind ah),yB ([AV.ref 5,ai ↑c].length= [AV.ref 5,ai ↑c].length∧0< [AV.ref 5,ai ↑c].length) (by simp [n2]),yB (ao (fc c fr.length x.kind != (0:Int))=ao false) (by simp [n2])]<|zF 17<|aW<|zS<|zP 1 [yH [(1,yV (ao (gQ x)))]] [.aa [21,17,5,9,4,3,0,1] [1000000000000,5,3]] [yI (jg x hk hd)]<|dm 21 (!gQ x) (by simp_all)<|zq<|dd (zG [] [yJ 4 (nf fr c x) (by rw [h2]),yR [AV.ref 5,ai ↑c],yR (ae bA fr)])
 | true =>
 rw [if_neg (by rw [n3];decide)] at h2
 by_cases n4:1024<x.cI.length
 ·rw [if_pos n4] at h2
  refine nj Tryz.func162 44<|zq<|zS<|zP 1 [yH [(3,{av:=some (ao (decide (0<c∧fr.length=0))),ln:=[(1000000000000,1000000000000),(5,5)],ho:=[(1000000000000,Row.mk 1 false true [AV.ref 5,ai ↑c]),(5,Row.mk 3 true false (ae bA fr))]})]] [.aa [9,4,3,0,1] [1000000000000,5,3]] [yI (gi fr c ah),yB ([AV.ref 5,ai ↑c].length= [AV.ref 5,ai ↑c].length∧0< [AV.ref 5,ai ↑c].length) (by simp [n2])]<|bj 9 (decide (0<c∧fr.length=0)) (by assumption)<|aW<|zS<|zP 2 [{hs:=[(5,{av:=some (ai (fc c fr.length x.kind)),ln:=[(1000000000000,1000000000000),(5,5)],ho:=[(1000000000000,Row.mk 1 false true [AV.ref 5,ai ↑c]),(5,Row.mk 3 true false (ae bA fr))]})],T:=5},yH [(1,yV (ao false))]] [.aa [17,5,9,4,3,0,1] [1000000000000,5,3]] [yI (iw fr c x.kind ah),yB ([AV.ref 5,ai ↑c].length= [AV.ref 5,ai ↑c].length∧0< [AV.ref 5,ai ↑c].length) (by simp [n2]),yB (ao (fc c fr.length x.kind != (0:Int))=ao false) (by simp [n2])]<|zF 17<|aW<|zS<|zP 1 [yH [(1,yV (ao (gQ x)))]] [.aa [21,17,5,9,4,3,0,1] [1000000000000,5,3]] [yI (jg x hk hd)]<|bj 21 (!gQ x) (by simp_all)<|aW<|zS<|zP 1 [yH [(2,yV (ai (↑x.cI.length:Int)))]] [.aa [25,21,17,5,9,4,3,0,1] [1000000000000,5,3]] [yR (ai (↑x.cI.length:Int))]<|gN 25 ((↑x.cI.length:Int)>1024)<|zq<|dd (zG [] [yJ 8 (nf fr c x) (by rw [h2]),yR [AV.ref 5,ai ↑c],yR (ae bA fr)])
 rw [if_neg n4] at h2
 by_cases n5:x.kind=5
 ·by_cases n7:512<wv x.num
  ·rw [if_pos ⟨n5,n7⟩] at h2
   refine nj Tryz.func162 44<|zq<|zS<|zP 1 [yH [(3,{av:=some (ao (decide (0<c∧fr.length=0))),ln:=[(1000000000000,1000000000000),(5,5)],ho:=[(1000000000000,Row.mk 1 false true [AV.ref 5,ai ↑c]),(5,Row.mk 3 true false (ae bA fr))]})]] [.aa [9,4,3,0,1] [1000000000000,5,3]] [yI (gi fr c ah),yB ([AV.ref 5,ai ↑c].length= [AV.ref 5,ai ↑c].length∧0< [AV.ref 5,ai ↑c].length) (by simp [n2])]<|bj 9 (decide (0<c∧fr.length=0)) (by assumption)<|aW<|zS<|zP 2 [{hs:=[(5,{av:=some (ai (fc c fr.length x.kind)),ln:=[(1000000000000,1000000000000),(5,5)],ho:=[(1000000000000,Row.mk 1 false true [AV.ref 5,ai ↑c]),(5,Row.mk 3 true false (ae bA fr))]})],T:=5},yH [(1,yV (ao false))]] [.aa [17,5,9,4,3,0,1] [1000000000000,5,3]] [yI (iw fr c x.kind ah),yB ([AV.ref 5,ai ↑c].length= [AV.ref 5,ai ↑c].length∧0< [AV.ref 5,ai ↑c].length) (by simp [n2]),yB (ao (fc c fr.length x.kind != (0:Int))=ao false) (by simp [n2])]<|zF 17<|aW<|zS<|zP 1 [yH [(1,yV (ao (gQ x)))]] [.aa [21,17,5,9,4,3,0,1] [1000000000000,5,3]] [yI (jg x hk hd)]<|bj 21 (!gQ x) (by simp_all)<|aW<|zS<|zP 1 [yH [(2,yV (ai (↑x.cI.length:Int)))]] [.aa [25,21,17,5,9,4,3,0,1] [1000000000000,5,3]] [yR (ai (↑x.cI.length:Int))]<|dq 25 ((↑x.cI.length:Int)>1024)<|aW<|zS<|zP 1 [{}] [.aa [38,25,21,17,5,9,4,3,0,1] [1000000000000,5,3]] (yM 4 (yB ((x.kind == (5:Int))=true) eg)++yM 4 (yR true))<|gN 38 (wv x.num>512)<|zq<|dd (zG [] [yJ 8 (nf fr c x) (by rw [h2]),yR [AV.ref 5,ai ↑c],yR (ae bA fr)])
  ·rw [if_neg (fun q=>n7 q.2)] at h2
   have e6:qO x=0:=by unfold qO;rw [if_neg ah]
   exact absurd (h2.trans e6) h
 ·have Gi:x.kind≠6:=by rcases hk with q|q|q|q<;>omega
  rw [if_neg (fun q=>n5 q.1)] at h2
  have n6:qO x≠0:=ah
  have e6:qO x=6:=by
   unfold qO at n6 ⊢
   split
   ·rfl
   ·rename_i q;rw [if_neg q] at n6;omega
  refine nj Tryz.func162 44<|zq<|zS<|zP 1 [yH [(3,{av:=some (ao (decide (0<c∧fr.length=0))),ln:=[(1000000000000,1000000000000),(5,5)],ho:=[(1000000000000,Row.mk 1 false true [AV.ref 5,ai ↑c]),(5,Row.mk 3 true false (ae bA fr))]})]] [.aa [9,4,3,0,1] [1000000000000,5,3]] [yI (gi fr c ah),yB ([AV.ref 5,ai ↑c].length= [AV.ref 5,ai ↑c].length∧0< [AV.ref 5,ai ↑c].length) (by simp [n2])]<|bj 9 (decide (0<c∧fr.length=0)) (by assumption)<|aW<|zS<|zP 2 [{hs:=[(5,{av:=some (ai (fc c fr.length x.kind)),ln:=[(1000000000000,1000000000000),(5,5)],ho:=[(1000000000000,Row.mk 1 false true [AV.ref 5,ai ↑c]),(5,Row.mk 3 true false (ae bA fr))]})],T:=5},yH [(1,yV (ao false))]] [.aa [17,5,9,4,3,0,1] [1000000000000,5,3]] [yI (iw fr c x.kind ah),yB ([AV.ref 5,ai ↑c].length= [AV.ref 5,ai ↑c].length∧0< [AV.ref 5,ai ↑c].length) (by simp [n2]),yB (ao (fc c fr.length x.kind != (0:Int))=ao false) (by simp [n2])]<|zF 17<|aW<|zS<|zP 1 [yH [(1,yV (ao (gQ x)))]] [.aa [21,17,5,9,4,3,0,1] [1000000000000,5,3]] [yI (jg x hk hd)]<|bj 21 (!gQ x) (by simp_all)<|aW<|zS<|zP 1 [yH [(2,yV (ai (↑x.cI.length:Int)))]] [.aa [25,21,17,5,9,4,3,0,1] [1000000000000,5,3]] [yR (ai (↑x.cI.length:Int))]<|dq 25 ((↑x.cI.length:Int)>1024)<|aW<|zS<|zP 1 [yH ([(7,{b:=false}),(12,{b:=false})]++yg [4,5,6,9,10,11])] [.aa [38,25,21,17,5,9,4,3,0,1] [1000000000000,5,3]] (yM 4 (yB ((x.kind == (5:Int))=false) bD)++yM 4 (yB ((x.kind == (6:Int))=false) bD))<|zF 38<|aW<|zP 1 [{hs:=[(4,{av:=some (ai 6),ln:=[(1000000000000,1000000000000),(5,5)],ho:=[(1000000000000,Row.mk 1 false true [AV.ref 5,ai ↑c]),(5,Row.mk 3 true false (ae bA fr))]})],T:=4}] [.aa [4,38,25,21,17,5,9,3,0,1] [1000000000000,5,3]] [yI (zU fr c x n6 hd),yB ([AV.ref 5,ai ↑c].length= [AV.ref 5,ai ↑c].length∧0< [AV.ref 5,ai ↑c].length) (by simp [n2])]<|zR (zG [] [yJ 6 (nf fr c x) (by rw [h2,e6]),yR [AV.ref 5,ai ↑c],yR (ae bA fr)])
end Go.Proofs.YtjgbhhnghedgdaaGreatDoor
