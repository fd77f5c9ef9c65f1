import Derived.Test.YtjgbhhnghedgdaaGreatDoorZfRec5
set_option linter.all false
namespace Go.Proofs.YtjgbhhnghedgdaaGreatDoor
open Go.RowKit
set_option maxRecDepth 100000
set_option maxHeartbeats 4000000
def fg (k:Int):Prop:=k=1∨k=3∨k=4∨k=5
def ry (x:fP):Int:=if x.kind=4∧Lib.validD x.cJ=false then 6 else 0
theorem CS (fr:List Int) (c:Nat) (x:fP) (h:ry x=0) (hk:x.kind≠6) (hx:x.kind=5->wv x.num≤512) (hf:fr.length≤1000) (gZ:∀k∈fr,-1000≤k∧k≤1000) (hc:c≤1000000) (hd:x.cJ.length≤1000000):gw Tryz.prog 173 [.addr 1000000000000 0,.agg (bn x)] (CV fr c) (ai 0) (CV (nC fr x) (c+1)):=by
 have dC:=Gw fr c x hk hx hf gZ hc
 by_cases h4:x.kind=4
 ·have hv:Lib.validD x.cJ=true:=by
   cases e:Lib.validD x.cJ with
   | true=>rfl
   | false=>unfold ry at h;rw [if_pos ⟨h4,e⟩] at h;omega
  refine nw Tryz.func173 52<|zq<|zS<|zP 1 [yH [(6,yV (ao (Lib.validD x.cJ)))]] [.aa [15,4,3,0,1] [3,1000000000000,5]] (yM 3 (yB ((x.kind == (4:Int))=true) fh)++ [yI (kC x.cJ ag)]++yM 2 (yB ((x.kind == (4:Int))=true) fh))<|bj 15 (!Lib.validD x.cJ) (by simp_all)<|a6<|zS<|zQ 1 [yH [(1,yE [(1000000000000,1000000000000),(5,5)] (gU (fr) (c) ag))]] [yI (gU fr c ag),yB ([AV.ref 5,ai ↑c].length= [AV.ref 5,ai ↑c].length∧0< [AV.ref 5,ai ↑c].length) ⟨rfl,Nat.succ_pos _⟩]<|zF 17<|a6<|zP 2 [yH [(2,yE [(1000000000000,1000000000000),(5,5)] dC)],{}] [.aa [4,17,15,3,0,1] [1000000000000,5,3]] [yI dC,yB ([AV.ref 5,ai ↑c].length= [AV.ref 5,ai (↑(c+1):Int)].length∧0< [AV.ref 5,ai (↑(c+1):Int)].length) ⟨rfl,Nat.succ_pos _⟩]<|zR (zG [] [yR (Value.int .i64 0),yR [AV.ref 5,ai (↑(c+1):Int)],yR (ae cI (nC fr x))])
 ·refine nw Tryz.func173 52<|zq<|zS<|zP 1 [yH ([(8,{b:=false})]++yg [4,5,6,7])] [.aa [15,4,3,0,1] [3,1000000000000,5]] (yM 5 (yB ((x.kind == (4:Int))=false) bx))<|zF 15<|a6<|zS<|zQ 1 [yH [(1,yE [(1000000000000,1000000000000),(5,5)] (gU (fr) (c) ag))]] [yI (gU fr c ag),yB ([AV.ref 5,ai ↑c].length= [AV.ref 5,ai ↑c].length∧0< [AV.ref 5,ai ↑c].length) ⟨rfl,Nat.succ_pos _⟩]<|zF 17<|a6<|zP 2 [yH [(2,yE [(1000000000000,1000000000000),(5,5)] dC)],{}] [.aa [4,17,15,3,0,1] [1000000000000,5,3]] [yI dC,yB ([AV.ref 5,ai ↑c].length= [AV.ref 5,ai (↑(c+1):Int)].length∧0< [AV.ref 5,ai (↑(c+1):Int)].length) ⟨rfl,Nat.succ_pos _⟩]<|zR (zG [] [yR (Value.int .i64 0),yR [AV.ref 5,ai (↑(c+1):Int)],yR (ae cI (nC fr x))])
theorem rv (fr:List Int) (c:Nat) (x:fP) (h:ry x≠0) (hd:x.cJ.length≤1000000):gw Tryz.prog 173 [.addr 1000000000000 0,.agg (bn x)] (CV fr c) (ai 6) (CV fr c):=by
 have h2:x.kind=4∧Lib.validD x.cJ=false:=by
  apply Classical.byContradiction
  intro q
  exact h (if_neg q)
 obtain ⟨h4,hv⟩:=h2
 refine nw Tryz.func173 52<|zq<|zS<|zP 1 [yH [(6,yV (ao (Lib.validD x.cJ)))]] [.aa [15,4,3,0,1] [3,1000000000000,5]] (yM 3 (yB ((x.kind == (4:Int))=true) fh)++ [yI (kC x.cJ ag)]++yM 2 (yB ((x.kind == (4:Int))=true) fh))<|du 15 (!Lib.validD x.cJ) (by simp_all)<|zq<|dk (zG [] [yR (Value.int .i64 6),yR [AV.ref 5,ai ↑c],yR (ae cI fr)])
def il (x:fP):Bool:=if x.kind=3∨x.kind=4 then decide (x.num=0) else x.cJ == []
theorem ju (x:fP) (hk:fg x.kind) (hd:x.cJ.length≤1000000):bA Tryz.prog 172 [.agg (bn x)] (ao (il x)):=by
 rcases hk with h|h|h|h
 ·have e:il x=(x.cJ == []):=if_neg ag
  refine zO Tryz.func172 34<|zq<|zS<|zq<|zB 0<|zS<|zP 1 [{}] [.aa [5,4,2,1,0] [1]] []<|bj 5 (x.kind == (3:Int)) bx<|zX {} []<|al<|bj 5 (x.kind == (4:Int)) bx<|zP 1 [{}] [.aa [11,5,4,2,1,0] [1]] []<|bj 11 (x.kind == (8:Int)) bx<|zq<|bj 21 (x.kind == (7:Int)) bx<|zK<|aK<|al<|zP 1 [yH [(2,yV (ao (x.cJ == [])))]] [.aa [2,21,11,5,4,1,0] [1]] [yI (eY x.cJ [])]<|zR (zV [yB (Value.bool (x.cJ == [])=Value.bool (il x)) (by rw [e])])
 ·have e:il x=decide (x.num=0):=if_pos ag
  refine zO Tryz.func172 34<|zq<|zS<|zq<|zB 0<|zS<|zP 1 [{}] [.aa [5,4,2,1,0] [1]] []<|du 5 (x.kind == (3:Int)) fh<|a6<|du 5 (x.kind == (3:Int)) fh<|zP 1 [yH [(2,yV (ao (x.num == 0)))]] [.aa [2,5,4,1,0] [1]] [yI (fK x.num 0)]<|zR<|ba<|aI (zV [yB (Value.bool (x.num == 0)=Value.bool (il x)) (by rw [e];rfl)])
 ·have e:il x=decide (x.num=0):=if_pos ag
  refine zO Tryz.func172 34<|zq<|zS<|zq<|zB 0<|zS<|zP 1 [{}] [.aa [5,4,2,1,0] [1]] []<|bj 5 (x.kind == (3:Int)) bx<|zX {} []<|al<|du 5 (x.kind == (4:Int)) fh<|zP 1 [yH [(2,yV (ao (x.num == 0)))]] [.aa [2,5,4,1,0] [1]] [yI (fK x.num 0)]<|zR<|ba<|aI (zV [yB (Value.bool (x.num == 0)=Value.bool (il x)) (by rw [e];rfl)])
 ·have e:il x=(x.cJ == []):=if_neg ag
  refine zO Tryz.func172 34<|zq<|zS<|zq<|zB 0<|zS<|zP 1 [{}] [.aa [5,4,2,1,0] [1]] []<|bj 5 (x.kind == (3:Int)) bx<|zX {} []<|al<|bj 5 (x.kind == (4:Int)) bx<|zP 1 [{}] [.aa [11,5,4,2,1,0] [1]] []<|bj 11 (x.kind == (8:Int)) bx<|zq<|bj 21 (x.kind == (7:Int)) bx<|zK<|aK<|al<|zP 1 [yH [(2,yV (ao (x.cJ == [])))]] [.aa [2,21,11,5,4,1,0] [1]] [yI (eY x.cJ [])]<|zR (zV [yB (Value.bool (x.cJ == [])=Value.bool (il x)) (by rw [e])])
def nE (fr:List Int) (c:Nat) (x:fP):Int:=if 0<c∧fr.length=0 then 2 else if gD c fr.length x.kind≠0 then gD c fr.length x.kind else if il x=false then 4 else if 1024<x.cJ.length then 8 else if x.kind=5∧512<wv x.num then 8 else ry x
theorem G0 (fr:List Int) (c:Nat) (x:fP) (h:nE fr c x=0) (hk:fg x.kind) (hf:fr.length≤1000) (gZ:∀k∈fr,-1000≤k∧k≤1000) (hc:c≤1000000) (hd:x.cJ.length≤1000000):gw Tryz.prog 162 [.addr 1000000000000 0,.agg (bn x)] (CV fr c) (ai 0) (CV (nC fr x) (c+1)):=by
 have n1:¬(0<c∧fr.length=0):=fun q=>by unfold nE at h;rw [if_pos q] at h;omega
 have h2:nE fr c x=if gD c fr.length x.kind≠0 then gD c fr.length x.kind else if il x=false then 4 else if 1024<x.cJ.length then 8 else if x.kind=5∧512<wv x.num then 8 else ry x:=if_neg n1
 have n2:gD c fr.length x.kind=0:=Classical.byContradiction fun q=>q (by rw [h2,if_pos q] at h;exact h)
 rw [if_neg ag] at h2
 have n3:il x=true:=by
  cases e:il x with
  | true=>rfl
  | false=>rw [h2,if_pos e] at h;omega
 rw [if_neg (by rw [n3];decide)] at h2
 have n4:¬1024<x.cJ.length:=fun q=>by rw [h2,if_pos q] at h;omega
 rw [if_neg n4] at h2
 have n5:¬(x.kind=5∧512<wv x.num):=fun q=>by rw [h2,if_pos q] at h;omega
 rw [if_neg n5] at h2
 have n6:ry x=0:=ag
 have dC:=CS fr c x n6 (by rcases hk with q|q|q|q<;>omega) (fun q=>ag) hf gZ hc hd
 have P4:decide (0<c∧fr.length=0)=false:=decide_eq_false n1
 by_cases h5:x.kind=5
 ·refine nw Tryz.func162 44<|zq<|zS<|zP 1 [yH [(3,yE [(1000000000000,1000000000000),(5,5)] (cM (fr) (c) ag))]] [.aa [9,4,3,0,1] [1000000000000,5,3]] [yI (cM fr c ag),yB ([AV.ref 5,ai ↑c].length= [AV.ref 5,ai ↑c].length∧0< [AV.ref 5,ai ↑c].length) (by simp [n2])]<|bj 9 (decide (0<c∧fr.length=0)) (by assumption)<|a6<|zS<|zP 2 [{hs:=[(5,yE [(1000000000000,1000000000000),(5,5)] (dK (fr) (c) (x.kind) ag))],T:=5},yH [(1,yV (ao false))]] [.aa [17,5,9,4,3,0,1] [1000000000000,5,3]] [yI (dK fr c x.kind ag),yB ([AV.ref 5,ai ↑c].length= [AV.ref 5,ai ↑c].length∧0< [AV.ref 5,ai ↑c].length) (by simp [n2]),yB (ao (gD c fr.length x.kind != (0:Int))=ao false) (by simp [n2])]<|zF 17<|a6<|zS<|zP 1 [yH [(1,yV (ao (il x)))]] [.aa [21,17,5,9,4,3,0,1] [1000000000000,5,3]] [yI (ju x hk hd)]<|bj 21 (!il x) (by simp_all)<|a6<|zS<|zP 1 [yH [(2,yV (ai (↑x.cJ.length:Int)))]] [.aa [25,21,17,5,9,4,3,0,1] [1000000000000,5,3]] [yR (ai (↑x.cJ.length:Int))]<|dm 25 ((↑x.cJ.length:Int)>1024)<|a6<|zS<|zP 1 [{}] [.aa [38,25,21,17,5,9,4,3,0,1] [1000000000000,5,3]] (yM 4 (yB ((x.kind == (5:Int))=true) fh)++yM 4 (yR true))<|dm 38 (wv x.num>512)<|a6<|zP 1 [{hs:=[(4,yE [(1000000000000,1000000000000),(5,5)] dC)],T:=4}] [.aa [4,38,25,21,17,5,9,3,0,1] [1000000000000,5,3]] [yI dC,yB ([AV.ref 5,ai ↑c].length= [AV.ref 5,ai (↑(c+1):Int)].length∧0< [AV.ref 5,ai (↑(c+1):Int)].length) (by simp [n2])]<|zR (zG [] [yR (Value.int .i64 0),yR [AV.ref 5,ai (↑(c+1):Int)],yR (ae cI (nC fr x))])
 ·have G9:x.kind≠6:=by rcases hk with q|q|q|q<;>omega
  refine nw Tryz.func162 44<|zq<|zS<|zP 1 [yH [(3,yE [(1000000000000,1000000000000),(5,5)] (cM (fr) (c) ag))]] [.aa [9,4,3,0,1] [1000000000000,5,3]] [yI (cM fr c ag),yB ([AV.ref 5,ai ↑c].length= [AV.ref 5,ai ↑c].length∧0< [AV.ref 5,ai ↑c].length) (by simp [n2])]<|bj 9 (decide (0<c∧fr.length=0)) (by assumption)<|a6<|zS<|zP 2 [{hs:=[(5,yE [(1000000000000,1000000000000),(5,5)] (dK (fr) (c) (x.kind) ag))],T:=5},yH [(1,yV (ao false))]] [.aa [17,5,9,4,3,0,1] [1000000000000,5,3]] [yI (dK fr c x.kind ag),yB ([AV.ref 5,ai ↑c].length= [AV.ref 5,ai ↑c].length∧0< [AV.ref 5,ai ↑c].length) (by simp [n2]),yB (ao (gD c fr.length x.kind != (0:Int))=ao false) (by simp [n2])]<|zF 17<|a6<|zS<|zP 1 [yH [(1,yV (ao (il x)))]] [.aa [21,17,5,9,4,3,0,1] [1000000000000,5,3]] [yI (ju x hk hd)]<|bj 21 (!il x) (by simp_all)<|a6<|zS<|zP 1 [yH [(2,yV (ai (↑x.cJ.length:Int)))]] [.aa [25,21,17,5,9,4,3,0,1] [1000000000000,5,3]] [yR (ai (↑x.cJ.length:Int))]<|dm 25 ((↑x.cJ.length:Int)>1024)<|a6<|zS<|zP 1 [yH ([(7,{b:=false}),(12,{b:=false})]++yg [4,5,6,9,10,11])] [.aa [38,25,21,17,5,9,4,3,0,1] [1000000000000,5,3]] (yM 4 (yB ((x.kind == (5:Int))=false) bx)++yM 4 (yB ((x.kind == (6:Int))=false) bx))<|zF 38<|a6<|zP 1 [{hs:=[(4,yE [(1000000000000,1000000000000),(5,5)] dC)],T:=4}] [.aa [4,38,25,21,17,5,9,3,0,1] [1000000000000,5,3]] [yI dC,yB ([AV.ref 5,ai ↑c].length= [AV.ref 5,ai (↑(c+1):Int)].length∧0< [AV.ref 5,ai (↑(c+1):Int)].length) (by simp [n2])]<|zR (zG [] [yR (Value.int .i64 0),yR [AV.ref 5,ai (↑(c+1):Int)],yR (ae cI (nC fr x))])
theorem DI (fr:List Int) (c:Nat) (x:fP) (h:nE fr c x≠0) (hk:fg x.kind) (hf:fr.length≤1000) (hc:c≤1000000) (hd:x.cJ.length≤1000000):gw Tryz.prog 162 [.addr 1000000000000 0,.agg (bn x)] (CV fr c) (ai (nE fr c x)) (CV fr c):=by
 have _:=hc
 by_cases n1:0<c∧fr.length=0
 ·have e:nE fr c x=2:=if_pos n1
  have P4:decide (0<c∧fr.length=0)=true:=decide_eq_true n1
  refine nw Tryz.func162 44<|zq<|zS<|zP 1 [yH [(3,yE [(1000000000000,1000000000000),(5,5)] (cM (fr) (c) ag))]] [.aa [9,4,3,0,1] [1000000000000,5,3]] [yI (cM fr c ag),yB ([AV.ref 5,ai ↑c].length= [AV.ref 5,ai ↑c].length∧0< [AV.ref 5,ai ↑c].length) ⟨rfl,Nat.succ_pos _⟩]<|du 9 (decide (0<c∧fr.length=0)) (by assumption)<|zq<|dk (zG [] [yJ 2 (nE fr c x) (by rw [e]),yR [AV.ref 5,ai ↑c],yR (ae cI fr)])
 have P4:decide (0<c∧fr.length=0)=false:=decide_eq_false n1
 have h2:nE fr c x=if gD c fr.length x.kind≠0 then gD c fr.length x.kind else if il x=false then 4 else if 1024<x.cJ.length then 8 else if x.kind=5∧512<wv x.num then 8 else ry x:=if_neg n1
 by_cases n2:gD c fr.length x.kind=0
 case neg =>
  rw [if_pos n2] at h2
  refine nw Tryz.func162 44<|zq<|zS<|zP 1 [yH [(3,yE [(1000000000000,1000000000000),(5,5)] (cM (fr) (c) ag))]] [.aa [9,4,3,0,1] [1000000000000,5,3]] [yI (cM fr c ag),yB ([AV.ref 5,ai ↑c].length= [AV.ref 5,ai ↑c].length∧0< [AV.ref 5,ai ↑c].length) (by simp [n2])]<|bj 9 (decide (0<c∧fr.length=0)) (by assumption)<|a6<|zS<|zP 2 [{hs:=[(5,yE [(1000000000000,1000000000000),(5,5)] (dK (fr) (c) (x.kind) ag))],T:=5},yH [(1,yV (ao true))]] [.aa [17,5,9,4,3,0,1] [1000000000000,5,3]] [yI (dK fr c x.kind ag),yB ([AV.ref 5,ai ↑c].length= [AV.ref 5,ai ↑c].length∧0< [AV.ref 5,ai ↑c].length) (by simp [n2]),yB (ao (gD c fr.length x.kind != (0:Int))=ao true) (by simp [n2])]<|zT 17<|zq<|dk (zG [] [yJ (gD c fr.length x.kind) (nE fr c x) (by rw [h2]),yR [AV.ref 5,ai ↑c],yR (ae cI fr)])
 rw [if_neg ag] at h2
 cases n3:il x with
 | false =>
  rw [if_pos n3] at h2
  refine nw Tryz.func162 44<|zq<|zS<|zP 1 [yH [(3,yE [(1000000000000,1000000000000),(5,5)] (cM (fr) (c) ag))]] [.aa [9,4,3,0,1] [1000000000000,5,3]] [yI (cM fr c ag),yB ([AV.ref 5,ai ↑c].length= [AV.ref 5,ai ↑c].length∧0< [AV.ref 5,ai ↑c].length) (by simp [n2])]<|bj 9 (decide (0<c∧fr.length=0)) (by assumption)<|a6<|zS<|zP 2 [{hs:=[(5,yE [(1000000000000,1000000000000),(5,5)] (dK (fr) (c) (x.kind) ag))],T:=5},yH [(1,yV (ao false))]] [.aa [17,5,9,4,3,0,1] [1000000000000,5,3]] [yI (dK fr c x.kind ag),yB ([AV.ref 5,ai ↑c].length= [AV.ref 5,ai ↑c].length∧0< [AV.ref 5,ai ↑c].length) (by simp [n2]),yB (ao (gD c fr.length x.kind != (0:Int))=ao false) (by simp [n2])]<|zF 17<|a6<|zS<|zP 1 [yH [(1,yV (ao (il x)))]] [.aa [21,17,5,9,4,3,0,1] [1000000000000,5,3]] [yI (ju x hk hd)]<|du 21 (!il x) (by simp_all)<|zq<|dk (zG [] [yJ 4 (nE fr c x) (by rw [h2]),yR [AV.ref 5,ai ↑c],yR (ae cI fr)])
 | true =>
 rw [if_neg (by rw [n3];decide)] at h2
 by_cases n4:1024<x.cJ.length
 ·rw [if_pos n4] at h2
  refine nw Tryz.func162 44<|zq<|zS<|zP 1 [yH [(3,yE [(1000000000000,1000000000000),(5,5)] (cM (fr) (c) ag))]] [.aa [9,4,3,0,1] [1000000000000,5,3]] [yI (cM fr c ag),yB ([AV.ref 5,ai ↑c].length= [AV.ref 5,ai ↑c].length∧0< [AV.ref 5,ai ↑c].length) (by simp [n2])]<|bj 9 (decide (0<c∧fr.length=0)) (by assumption)<|a6<|zS<|zP 2 [{hs:=[(5,yE [(1000000000000,1000000000000),(5,5)] (dK (fr) (c) (x.kind) ag))],T:=5},yH [(1,yV (ao false))]] [.aa [17,5,9,4,3,0,1] [1000000000000,5,3]] [yI (dK fr c x.kind ag),yB ([AV.ref 5,ai ↑c].length= [AV.ref 5,ai ↑c].length∧0< [AV.ref 5,ai ↑c].length) (by simp [n2]),yB (ao (gD c fr.length x.kind != (0:Int))=ao false) (by simp [n2])]<|zF 17<|a6<|zS<|zP 1 [yH [(1,yV (ao (il x)))]] [.aa [21,17,5,9,4,3,0,1] [1000000000000,5,3]] [yI (ju x hk hd)]<|bj 21 (!il x) (by simp_all)<|a6<|zS<|zP 1 [yH [(2,yV (ai (↑x.cJ.length:Int)))]] [.aa [25,21,17,5,9,4,3,0,1] [1000000000000,5,3]] [yR (ai (↑x.cJ.length:Int))]<|gX 25 ((↑x.cJ.length:Int)>1024)<|zq<|dk (zG [] [yJ 8 (nE fr c x) (by rw [h2]),yR [AV.ref 5,ai ↑c],yR (ae cI fr)])
 rw [if_neg n4] at h2
 by_cases n5:x.kind=5
 ·by_cases n7:512<wv x.num
  ·rw [if_pos ⟨n5,n7⟩] at h2
   refine nw Tryz.func162 44<|zq<|zS<|zP 1 [yH [(3,yE [(1000000000000,1000000000000),(5,5)] (cM (fr) (c) ag))]] [.aa [9,4,3,0,1] [1000000000000,5,3]] [yI (cM fr c ag),yB ([AV.ref 5,ai ↑c].length= [AV.ref 5,ai ↑c].length∧0< [AV.ref 5,ai ↑c].length) (by simp [n2])]<|bj 9 (decide (0<c∧fr.length=0)) (by assumption)<|a6<|zS<|zP 2 [{hs:=[(5,yE [(1000000000000,1000000000000),(5,5)] (dK (fr) (c) (x.kind) ag))],T:=5},yH [(1,yV (ao false))]] [.aa [17,5,9,4,3,0,1] [1000000000000,5,3]] [yI (dK fr c x.kind ag),yB ([AV.ref 5,ai ↑c].length= [AV.ref 5,ai ↑c].length∧0< [AV.ref 5,ai ↑c].length) (by simp [n2]),yB (ao (gD c fr.length x.kind != (0:Int))=ao false) (by simp [n2])]<|zF 17<|a6<|zS<|zP 1 [yH [(1,yV (ao (il x)))]] [.aa [21,17,5,9,4,3,0,1] [1000000000000,5,3]] [yI (ju x hk hd)]<|bj 21 (!il x) (by simp_all)<|a6<|zS<|zP 1 [yH [(2,yV (ai (↑x.cJ.length:Int)))]] [.aa [25,21,17,5,9,4,3,0,1] [1000000000000,5,3]] [yR (ai (↑x.cJ.length:Int))]<|dm 25 ((↑x.cJ.length:Int)>1024)<|a6<|zS<|zP 1 [{}] [.aa [38,25,21,17,5,9,4,3,0,1] [1000000000000,5,3]] (yM 4 (yB ((x.kind == (5:Int))=true) fh)++yM 4 (yR true))<|gX 38 (wv x.num>512)<|zq<|dk (zG [] [yJ 8 (nE fr c x) (by rw [h2]),yR [AV.ref 5,ai ↑c],yR (ae cI fr)])
  ·rw [if_neg (fun q=>n7 q.2)] at h2
   have e6:ry x=0:=by unfold ry;rw [if_neg ag]
   exact absurd (h2.trans e6) h
 ·have G9:x.kind≠6:=by rcases hk with q|q|q|q<;>omega
  rw [if_neg (fun q=>n5 q.1)] at h2
  have n6:ry x≠0:=ag
  have e6:ry x=6:=by
   unfold ry at n6 ⊢
   split
   ·rfl
   ·rename_i q;rw [if_neg q] at n6;omega
  refine nw Tryz.func162 44<|zq<|zS<|zP 1 [yH [(3,yE [(1000000000000,1000000000000),(5,5)] (cM (fr) (c) ag))]] [.aa [9,4,3,0,1] [1000000000000,5,3]] [yI (cM fr c ag),yB ([AV.ref 5,ai ↑c].length= [AV.ref 5,ai ↑c].length∧0< [AV.ref 5,ai ↑c].length) (by simp [n2])]<|bj 9 (decide (0<c∧fr.length=0)) (by assumption)<|a6<|zS<|zP 2 [{hs:=[(5,yE [(1000000000000,1000000000000),(5,5)] (dK (fr) (c) (x.kind) ag))],T:=5},yH [(1,yV (ao false))]] [.aa [17,5,9,4,3,0,1] [1000000000000,5,3]] [yI (dK fr c x.kind ag),yB ([AV.ref 5,ai ↑c].length= [AV.ref 5,ai ↑c].length∧0< [AV.ref 5,ai ↑c].length) (by simp [n2]),yB (ao (gD c fr.length x.kind != (0:Int))=ao false) (by simp [n2])]<|zF 17<|a6<|zS<|zP 1 [yH [(1,yV (ao (il x)))]] [.aa [21,17,5,9,4,3,0,1] [1000000000000,5,3]] [yI (ju x hk hd)]<|bj 21 (!il x) (by simp_all)<|a6<|zS<|zP 1 [yH [(2,yV (ai (↑x.cJ.length:Int)))]] [.aa [25,21,17,5,9,4,3,0,1] [1000000000000,5,3]] [yR (ai (↑x.cJ.length:Int))]<|dm 25 ((↑x.cJ.length:Int)>1024)<|a6<|zS<|zP 1 [yH ([(7,{b:=false}),(12,{b:=false})]++yg [4,5,6,9,10,11])] [.aa [38,25,21,17,5,9,4,3,0,1] [1000000000000,5,3]] (yM 4 (yB ((x.kind == (5:Int))=false) bx)++yM 4 (yB ((x.kind == (6:Int))=false) bx))<|zF 38<|a6<|zP 1 [{hs:=[(4,yE [(1000000000000,1000000000000),(5,5)] (rv (fr) (c) (x) n6 hd))],T:=4}] [.aa [4,38,25,21,17,5,9,3,0,1] [1000000000000,5,3]] [yI (rv fr c x n6 hd),yB ([AV.ref 5,ai ↑c].length= [AV.ref 5,ai ↑c].length∧0< [AV.ref 5,ai ↑c].length) (by simp [n2])]<|zR (zG [] [yJ 6 (nE fr c x) (by rw [h2,e6]),yR [AV.ref 5,ai ↑c],yR (ae cI fr)])
end Go.Proofs.YtjgbhhnghedgdaaGreatDoor
