import Derived.Test.YtjgbhhnghedgdaaGreatDoorZvRec5
set_option linter.all false
namespace Go.Proofs.YtjgbhhnghedgdaaGreatDoor
open Go.RowKit
set_option maxRecDepth 100000
set_option maxHeartbeats 4000000
def fg (k:Int):Prop:=k=1∨k=3∨k=4∨k=5
def ru (x:fS):Int:=if x.kind=4∧Lib.validD x.cL=false then 6 else 0
theorem Cr (fr:List Int) (c:Nat) (x:fS) (h:ru x=0) (hk:x.kind≠6) (hx:x.kind=5->wv x.num≤512) (hf:fr.length≤1000) (gu:∀k∈fr,-1000≤k∧k≤1000) (hc:c≤1000000) (hd:x.cL.length≤1000000):gn Tryz.prog 173 [.addr 1000000000000 0,.agg (bp x)] (Ct fr c) (ai 0) (Ct (nD fr x) (c+1)):=by
 have dJ:=FR fr c x hk hx hf gu hc
 by_cases h4:x.kind=4
 ·have hv:Lib.validD x.cL=true:=by
   cases e:Lib.validD x.cL with
   | true=>rfl
   | false=>unfold ru at h;rw [if_pos ⟨h4,e⟩] at h;omega
  refine nC Tryz.func173 52<|zq<|zS<|zP 1 [yH [(6,yV (ao (Lib.validD x.cL)))]] [.aa [15,4,3,0,1] [3,1000000000000,5]] (yM 3 (yB ((x.kind == (4:Int))=true) eJ)++ [yI (kF x.cL ag)]++yM 2 (yB ((x.kind == (4:Int))=true) eJ))<|bk 15 (!Lib.validD x.cL) (by simp_all)<|a_<|zS<|zQ 1 [yH [(1,yE [(1000000000000,1000000000000),(5,5)] (gP (fr) (c) ag))]] [yI (gP fr c ag),yB ([AV.ref 5,ai ↑c].length= [AV.ref 5,ai ↑c].length∧0< [AV.ref 5,ai ↑c].length) ⟨rfl,Nat.succ_pos _⟩]<|zF 17<|a_<|zP 2 [yH [(2,yE [(1000000000000,1000000000000),(5,5)] dJ)],{}] [.aa [4,17,15,3,0,1] [1000000000000,5,3]] [yI dJ,yB ([AV.ref 5,ai ↑c].length= [AV.ref 5,ai (↑(c+1):Int)].length∧0< [AV.ref 5,ai (↑(c+1):Int)].length) ⟨rfl,Nat.succ_pos _⟩]<|zR (zG [] [yR (Value.int .i64 0),yR [AV.ref 5,ai (↑(c+1):Int)],yR (af cK (nD fr x))])
 ·refine nC Tryz.func173 52<|zq<|zS<|zP 1 [yH ([(8,{b:=false})]++yg [4,5,6,7])] [.aa [15,4,3,0,1] [3,1000000000000,5]] (yM 5 (yB ((x.kind == (4:Int))=false) bD))<|zF 15<|a_<|zS<|zQ 1 [yH [(1,yE [(1000000000000,1000000000000),(5,5)] (gP (fr) (c) ag))]] [yI (gP fr c ag),yB ([AV.ref 5,ai ↑c].length= [AV.ref 5,ai ↑c].length∧0< [AV.ref 5,ai ↑c].length) ⟨rfl,Nat.succ_pos _⟩]<|zF 17<|a_<|zP 2 [yH [(2,yE [(1000000000000,1000000000000),(5,5)] dJ)],{}] [.aa [4,17,15,3,0,1] [1000000000000,5,3]] [yI dJ,yB ([AV.ref 5,ai ↑c].length= [AV.ref 5,ai (↑(c+1):Int)].length∧0< [AV.ref 5,ai (↑(c+1):Int)].length) ⟨rfl,Nat.succ_pos _⟩]<|zR (zG [] [yR (Value.int .i64 0),yR [AV.ref 5,ai (↑(c+1):Int)],yR (af cK (nD fr x))])
theorem rr (fr:List Int) (c:Nat) (x:fS) (h:ru x≠0) (hd:x.cL.length≤1000000):gn Tryz.prog 173 [.addr 1000000000000 0,.agg (bp x)] (Ct fr c) (ai 6) (Ct fr c):=by
 have h2:x.kind=4∧Lib.validD x.cL=false:=by
  apply Classical.byContradiction
  intro q
  exact h (if_neg q)
 obtain ⟨h4,hv⟩:=h2
 refine nC Tryz.func173 52<|zq<|zS<|zP 1 [yH [(6,yV (ao (Lib.validD x.cL)))]] [.aa [15,4,3,0,1] [3,1000000000000,5]] (yM 3 (yB ((x.kind == (4:Int))=true) eJ)++ [yI (kF x.cL ag)]++yM 2 (yB ((x.kind == (4:Int))=true) eJ))<|dB 15 (!Lib.validD x.cL) (by simp_all)<|zq<|dC (zG [] [yR (Value.int .i64 6),yR [AV.ref 5,ai ↑c],yR (af cK fr)])
def ik (x:fS):Bool:=if x.kind=3∨x.kind=4 then decide (x.num=0) else x.cL == []
theorem jw (x:fS) (hk:fg x.kind) (hd:x.cL.length≤1000000):bG Tryz.prog 172 [.agg (bp x)] (ao (ik x)):=by
 rcases hk with h|h|h|h
 ·have e:ik x=(x.cL == []):=if_neg ag
  refine zO Tryz.func172 34<|zq<|zS<|zq<|zB 0<|zS<|zP 1 [{}] [.aa [5,4,2,1,0] [1]] []<|bk 5 (x.kind == (3:Int)) bD<|zX {} []<|al<|bk 5 (x.kind == (4:Int)) bD<|zP 1 [{}] [.aa [11,5,4,2,1,0] [1]] []<|bk 11 (x.kind == (8:Int)) bD<|zq<|bk 21 (x.kind == (7:Int)) bD<|zK<|aJ<|al<|zP 1 [yH [(2,yV (ao (x.cL == [])))]] [.aa [2,21,11,5,4,1,0] [1]] [yI (fF x.cL [])]<|zR (zV [yB (Value.bool (x.cL == [])=Value.bool (ik x)) (by rw [e])])
 ·have e:ik x=decide (x.num=0):=if_pos ag
  refine zO Tryz.func172 34<|zq<|zS<|zq<|zB 0<|zS<|zP 1 [{}] [.aa [5,4,2,1,0] [1]] []<|dB 5 (x.kind == (3:Int)) eJ<|a_<|dB 5 (x.kind == (3:Int)) eJ<|zP 1 [yH [(2,yV (ao (x.num == 0)))]] [.aa [2,5,4,1,0] [1]] [yI (fe x.num 0)]<|zR<|bc<|aK (zV [yB (Value.bool (x.num == 0)=Value.bool (ik x)) (by rw [e];rfl)])
 ·have e:ik x=decide (x.num=0):=if_pos ag
  refine zO Tryz.func172 34<|zq<|zS<|zq<|zB 0<|zS<|zP 1 [{}] [.aa [5,4,2,1,0] [1]] []<|bk 5 (x.kind == (3:Int)) bD<|zX {} []<|al<|dB 5 (x.kind == (4:Int)) eJ<|zP 1 [yH [(2,yV (ao (x.num == 0)))]] [.aa [2,5,4,1,0] [1]] [yI (fe x.num 0)]<|zR<|bc<|aK (zV [yB (Value.bool (x.num == 0)=Value.bool (ik x)) (by rw [e];rfl)])
 ·have e:ik x=(x.cL == []):=if_neg ag
  refine zO Tryz.func172 34<|zq<|zS<|zq<|zB 0<|zS<|zP 1 [{}] [.aa [5,4,2,1,0] [1]] []<|bk 5 (x.kind == (3:Int)) bD<|zX {} []<|al<|bk 5 (x.kind == (4:Int)) bD<|zP 1 [{}] [.aa [11,5,4,2,1,0] [1]] []<|bk 11 (x.kind == (8:Int)) bD<|zq<|bk 21 (x.kind == (7:Int)) bD<|zK<|aJ<|al<|zP 1 [yH [(2,yV (ao (x.cL == [])))]] [.aa [2,21,11,5,4,1,0] [1]] [yI (fF x.cL [])]<|zR (zV [yB (Value.bool (x.cL == [])=Value.bool (ik x)) (by rw [e])])
def nF (fr:List Int) (c:Nat) (x:fS):Int:=if 0<c∧fr.length=0 then 2 else if gy c fr.length x.kind≠0 then gy c fr.length x.kind else if ik x=false then 4 else if 1024<x.cL.length then 8 else if x.kind=5∧512<wv x.num then 8 else ru x
theorem Gj (fr:List Int) (c:Nat) (x:fS) (h:nF fr c x=0) (hk:fg x.kind) (hf:fr.length≤1000) (gu:∀k∈fr,-1000≤k∧k≤1000) (hc:c≤1000000) (hd:x.cL.length≤1000000):gn Tryz.prog 162 [.addr 1000000000000 0,.agg (bp x)] (Ct fr c) (ai 0) (Ct (nD fr x) (c+1)):=by
 have n1:¬(0<c∧fr.length=0):=fun q=>by unfold nF at h;rw [if_pos q] at h;omega
 have h2:nF fr c x=if gy c fr.length x.kind≠0 then gy c fr.length x.kind else if ik x=false then 4 else if 1024<x.cL.length then 8 else if x.kind=5∧512<wv x.num then 8 else ru x:=if_neg n1
 have n2:gy c fr.length x.kind=0:=Classical.byContradiction fun q=>q (by rw [h2,if_pos q] at h;exact h)
 rw [if_neg ag] at h2
 have n3:ik x=true:=by
  cases e:ik x with
  | true=>rfl
  | false=>rw [h2,if_pos e] at h;omega
 rw [if_neg (by rw [n3];decide)] at h2
 have n4:¬1024<x.cL.length:=fun q=>by rw [h2,if_pos q] at h;omega
 rw [if_neg n4] at h2
 have n5:¬(x.kind=5∧512<wv x.num):=fun q=>by rw [h2,if_pos q] at h;omega
 rw [if_neg n5] at h2
 have n6:ru x=0:=ag
 have dJ:=Cr fr c x n6 (by rcases hk with q|q|q|q<;>omega) (fun q=>ag) hf gu hc hd
 have O_:decide (0<c∧fr.length=0)=false:=decide_eq_false n1
 by_cases h5:x.kind=5
 ·refine nC Tryz.func162 44<|zq<|zS<|zP 1 [yH [(3,yE [(1000000000000,1000000000000),(5,5)] (cO (fr) (c) ag))]] [.aa [9,4,3,0,1] [1000000000000,5,3]] [yI (cO fr c ag),yB ([AV.ref 5,ai ↑c].length= [AV.ref 5,ai ↑c].length∧0< [AV.ref 5,ai ↑c].length) (by simp [n2])]<|bk 9 (decide (0<c∧fr.length=0)) (by assumption)<|a_<|zS<|zP 2 [{hs:=[(5,yE [(1000000000000,1000000000000),(5,5)] (dR (fr) (c) (x.kind) ag))],T:=5},yH [(1,yV (ao false))]] [.aa [17,5,9,4,3,0,1] [1000000000000,5,3]] [yI (dR fr c x.kind ag),yB ([AV.ref 5,ai ↑c].length= [AV.ref 5,ai ↑c].length∧0< [AV.ref 5,ai ↑c].length) (by simp [n2]),yB (ao (gy c fr.length x.kind != (0:Int))=ao false) (by simp [n2])]<|zF 17<|a_<|zS<|zP 1 [yH [(1,yV (ao (ik x)))]] [.aa [21,17,5,9,4,3,0,1] [1000000000000,5,3]] [yI (jw x hk hd)]<|bk 21 (!ik x) (by simp_all)<|a_<|zS<|zP 1 [yH [(2,yV (ai (↑x.cL.length:Int)))]] [.aa [25,21,17,5,9,4,3,0,1] [1000000000000,5,3]] [yR (ai (↑x.cL.length:Int))]<|dF 25 ((↑x.cL.length:Int)>1024)<|a_<|zS<|zP 1 [{}] [.aa [38,25,21,17,5,9,4,3,0,1] [1000000000000,5,3]] (yM 4 (yB ((x.kind == (5:Int))=true) eJ)++yM 4 (yR true))<|dF 38 (wv x.num>512)<|a_<|zP 1 [{hs:=[(4,yE [(1000000000000,1000000000000),(5,5)] dJ)],T:=4}] [.aa [4,38,25,21,17,5,9,3,0,1] [1000000000000,5,3]] [yI dJ,yB ([AV.ref 5,ai ↑c].length= [AV.ref 5,ai (↑(c+1):Int)].length∧0< [AV.ref 5,ai (↑(c+1):Int)].length) (by simp [n2])]<|zR (zG [] [yR (Value.int .i64 0),yR [AV.ref 5,ai (↑(c+1):Int)],yR (af cK (nD fr x))])
 ·have Fg:x.kind≠6:=by rcases hk with q|q|q|q<;>omega
  refine nC Tryz.func162 44<|zq<|zS<|zP 1 [yH [(3,yE [(1000000000000,1000000000000),(5,5)] (cO (fr) (c) ag))]] [.aa [9,4,3,0,1] [1000000000000,5,3]] [yI (cO fr c ag),yB ([AV.ref 5,ai ↑c].length= [AV.ref 5,ai ↑c].length∧0< [AV.ref 5,ai ↑c].length) (by simp [n2])]<|bk 9 (decide (0<c∧fr.length=0)) (by assumption)<|a_<|zS<|zP 2 [{hs:=[(5,yE [(1000000000000,1000000000000),(5,5)] (dR (fr) (c) (x.kind) ag))],T:=5},yH [(1,yV (ao false))]] [.aa [17,5,9,4,3,0,1] [1000000000000,5,3]] [yI (dR fr c x.kind ag),yB ([AV.ref 5,ai ↑c].length= [AV.ref 5,ai ↑c].length∧0< [AV.ref 5,ai ↑c].length) (by simp [n2]),yB (ao (gy c fr.length x.kind != (0:Int))=ao false) (by simp [n2])]<|zF 17<|a_<|zS<|zP 1 [yH [(1,yV (ao (ik x)))]] [.aa [21,17,5,9,4,3,0,1] [1000000000000,5,3]] [yI (jw x hk hd)]<|bk 21 (!ik x) (by simp_all)<|a_<|zS<|zP 1 [yH [(2,yV (ai (↑x.cL.length:Int)))]] [.aa [25,21,17,5,9,4,3,0,1] [1000000000000,5,3]] [yR (ai (↑x.cL.length:Int))]<|dF 25 ((↑x.cL.length:Int)>1024)<|a_<|zS<|zP 1 [yH ([(7,{b:=false}),(12,{b:=false})]++yg [4,5,6,9,10,11])] [.aa [38,25,21,17,5,9,4,3,0,1] [1000000000000,5,3]] (yM 4 (yB ((x.kind == (5:Int))=false) bD)++yM 4 (yB ((x.kind == (6:Int))=false) bD))<|zF 38<|a_<|zP 1 [{hs:=[(4,yE [(1000000000000,1000000000000),(5,5)] dJ)],T:=4}] [.aa [4,38,25,21,17,5,9,3,0,1] [1000000000000,5,3]] [yI dJ,yB ([AV.ref 5,ai ↑c].length= [AV.ref 5,ai (↑(c+1):Int)].length∧0< [AV.ref 5,ai (↑(c+1):Int)].length) (by simp [n2])]<|zR (zG [] [yR (Value.int .i64 0),yR [AV.ref 5,ai (↑(c+1):Int)],yR (af cK (nD fr x))])
theorem C_ (fr:List Int) (c:Nat) (x:fS) (h:nF fr c x≠0) (hk:fg x.kind) (hf:fr.length≤1000) (hc:c≤1000000) (hd:x.cL.length≤1000000):gn Tryz.prog 162 [.addr 1000000000000 0,.agg (bp x)] (Ct fr c) (ai (nF fr c x)) (Ct fr c):=by
 have _:=hc
 by_cases n1:0<c∧fr.length=0
 ·have e:nF fr c x=2:=if_pos n1
  have O_:decide (0<c∧fr.length=0)=true:=decide_eq_true n1
  refine nC Tryz.func162 44<|zq<|zS<|zP 1 [yH [(3,yE [(1000000000000,1000000000000),(5,5)] (cO (fr) (c) ag))]] [.aa [9,4,3,0,1] [1000000000000,5,3]] [yI (cO fr c ag),yB ([AV.ref 5,ai ↑c].length= [AV.ref 5,ai ↑c].length∧0< [AV.ref 5,ai ↑c].length) ⟨rfl,Nat.succ_pos _⟩]<|dB 9 (decide (0<c∧fr.length=0)) (by assumption)<|zq<|dC (zG [] [yJ 2 (nF fr c x) (by rw [e]),yR [AV.ref 5,ai ↑c],yR (af cK fr)])
 have O_:decide (0<c∧fr.length=0)=false:=decide_eq_false n1
 have h2:nF fr c x=if gy c fr.length x.kind≠0 then gy c fr.length x.kind else if ik x=false then 4 else if 1024<x.cL.length then 8 else if x.kind=5∧512<wv x.num then 8 else ru x:=if_neg n1
 by_cases n2:gy c fr.length x.kind=0
 case neg =>
  rw [if_pos n2] at h2
  refine nC Tryz.func162 44<|zq<|zS<|zP 1 [yH [(3,yE [(1000000000000,1000000000000),(5,5)] (cO (fr) (c) ag))]] [.aa [9,4,3,0,1] [1000000000000,5,3]] [yI (cO fr c ag),yB ([AV.ref 5,ai ↑c].length= [AV.ref 5,ai ↑c].length∧0< [AV.ref 5,ai ↑c].length) (by simp [n2])]<|bk 9 (decide (0<c∧fr.length=0)) (by assumption)<|a_<|zS<|zP 2 [{hs:=[(5,yE [(1000000000000,1000000000000),(5,5)] (dR (fr) (c) (x.kind) ag))],T:=5},yH [(1,yV (ao true))]] [.aa [17,5,9,4,3,0,1] [1000000000000,5,3]] [yI (dR fr c x.kind ag),yB ([AV.ref 5,ai ↑c].length= [AV.ref 5,ai ↑c].length∧0< [AV.ref 5,ai ↑c].length) (by simp [n2]),yB (ao (gy c fr.length x.kind != (0:Int))=ao true) (by simp [n2])]<|zT 17<|zq<|dC (zG [] [yJ (gy c fr.length x.kind) (nF fr c x) (by rw [h2]),yR [AV.ref 5,ai ↑c],yR (af cK fr)])
 rw [if_neg ag] at h2
 cases n3:ik x with
 | false =>
  rw [if_pos n3] at h2
  refine nC Tryz.func162 44<|zq<|zS<|zP 1 [yH [(3,yE [(1000000000000,1000000000000),(5,5)] (cO (fr) (c) ag))]] [.aa [9,4,3,0,1] [1000000000000,5,3]] [yI (cO fr c ag),yB ([AV.ref 5,ai ↑c].length= [AV.ref 5,ai ↑c].length∧0< [AV.ref 5,ai ↑c].length) (by simp [n2])]<|bk 9 (decide (0<c∧fr.length=0)) (by assumption)<|a_<|zS<|zP 2 [{hs:=[(5,yE [(1000000000000,1000000000000),(5,5)] (dR (fr) (c) (x.kind) ag))],T:=5},yH [(1,yV (ao false))]] [.aa [17,5,9,4,3,0,1] [1000000000000,5,3]] [yI (dR fr c x.kind ag),yB ([AV.ref 5,ai ↑c].length= [AV.ref 5,ai ↑c].length∧0< [AV.ref 5,ai ↑c].length) (by simp [n2]),yB (ao (gy c fr.length x.kind != (0:Int))=ao false) (by simp [n2])]<|zF 17<|a_<|zS<|zP 1 [yH [(1,yV (ao (ik x)))]] [.aa [21,17,5,9,4,3,0,1] [1000000000000,5,3]] [yI (jw x hk hd)]<|dB 21 (!ik x) (by simp_all)<|zq<|dC (zG [] [yJ 4 (nF fr c x) (by rw [h2]),yR [AV.ref 5,ai ↑c],yR (af cK fr)])
 | true =>
 rw [if_neg (by rw [n3];decide)] at h2
 by_cases n4:1024<x.cL.length
 ·rw [if_pos n4] at h2
  refine nC Tryz.func162 44<|zq<|zS<|zP 1 [yH [(3,yE [(1000000000000,1000000000000),(5,5)] (cO (fr) (c) ag))]] [.aa [9,4,3,0,1] [1000000000000,5,3]] [yI (cO fr c ag),yB ([AV.ref 5,ai ↑c].length= [AV.ref 5,ai ↑c].length∧0< [AV.ref 5,ai ↑c].length) (by simp [n2])]<|bk 9 (decide (0<c∧fr.length=0)) (by assumption)<|a_<|zS<|zP 2 [{hs:=[(5,yE [(1000000000000,1000000000000),(5,5)] (dR (fr) (c) (x.kind) ag))],T:=5},yH [(1,yV (ao false))]] [.aa [17,5,9,4,3,0,1] [1000000000000,5,3]] [yI (dR fr c x.kind ag),yB ([AV.ref 5,ai ↑c].length= [AV.ref 5,ai ↑c].length∧0< [AV.ref 5,ai ↑c].length) (by simp [n2]),yB (ao (gy c fr.length x.kind != (0:Int))=ao false) (by simp [n2])]<|zF 17<|a_<|zS<|zP 1 [yH [(1,yV (ao (ik x)))]] [.aa [21,17,5,9,4,3,0,1] [1000000000000,5,3]] [yI (jw x hk hd)]<|bk 21 (!ik x) (by simp_all)<|a_<|zS<|zP 1 [yH [(2,yV (ai (↑x.cL.length:Int)))]] [.aa [25,21,17,5,9,4,3,0,1] [1000000000000,5,3]] [yR (ai (↑x.cL.length:Int))]<|iw 25 ((↑x.cL.length:Int)>1024)<|zq<|dC (zG [] [yJ 8 (nF fr c x) (by rw [h2]),yR [AV.ref 5,ai ↑c],yR (af cK fr)])
 rw [if_neg n4] at h2
 by_cases n5:x.kind=5
 ·by_cases n7:512<wv x.num
  ·rw [if_pos ⟨n5,n7⟩] at h2
   refine nC Tryz.func162 44<|zq<|zS<|zP 1 [yH [(3,yE [(1000000000000,1000000000000),(5,5)] (cO (fr) (c) ag))]] [.aa [9,4,3,0,1] [1000000000000,5,3]] [yI (cO fr c ag),yB ([AV.ref 5,ai ↑c].length= [AV.ref 5,ai ↑c].length∧0< [AV.ref 5,ai ↑c].length) (by simp [n2])]<|bk 9 (decide (0<c∧fr.length=0)) (by assumption)<|a_<|zS<|zP 2 [{hs:=[(5,yE [(1000000000000,1000000000000),(5,5)] (dR (fr) (c) (x.kind) ag))],T:=5},yH [(1,yV (ao false))]] [.aa [17,5,9,4,3,0,1] [1000000000000,5,3]] [yI (dR fr c x.kind ag),yB ([AV.ref 5,ai ↑c].length= [AV.ref 5,ai ↑c].length∧0< [AV.ref 5,ai ↑c].length) (by simp [n2]),yB (ao (gy c fr.length x.kind != (0:Int))=ao false) (by simp [n2])]<|zF 17<|a_<|zS<|zP 1 [yH [(1,yV (ao (ik x)))]] [.aa [21,17,5,9,4,3,0,1] [1000000000000,5,3]] [yI (jw x hk hd)]<|bk 21 (!ik x) (by simp_all)<|a_<|zS<|zP 1 [yH [(2,yV (ai (↑x.cL.length:Int)))]] [.aa [25,21,17,5,9,4,3,0,1] [1000000000000,5,3]] [yR (ai (↑x.cL.length:Int))]<|dF 25 ((↑x.cL.length:Int)>1024)<|a_<|zS<|zP 1 [{}] [.aa [38,25,21,17,5,9,4,3,0,1] [1000000000000,5,3]] (yM 4 (yB ((x.kind == (5:Int))=true) eJ)++yM 4 (yR true))<|iw 38 (wv x.num>512)<|zq<|dC (zG [] [yJ 8 (nF fr c x) (by rw [h2]),yR [AV.ref 5,ai ↑c],yR (af cK fr)])
  ·rw [if_neg (fun q=>n7 q.2)] at h2
   have e6:ru x=0:=by unfold ru;rw [if_neg ag]
   exact absurd (h2.trans e6) h
 ·have Fg:x.kind≠6:=by rcases hk with q|q|q|q<;>omega
  rw [if_neg (fun q=>n5 q.1)] at h2
  have n6:ru x≠0:=ag
  have e6:ru x=6:=by
   unfold ru at n6 ⊢
   split
   ·rfl
   ·rename_i q;rw [if_neg q] at n6;omega
  refine nC Tryz.func162 44<|zq<|zS<|zP 1 [yH [(3,yE [(1000000000000,1000000000000),(5,5)] (cO (fr) (c) ag))]] [.aa [9,4,3,0,1] [1000000000000,5,3]] [yI (cO fr c ag),yB ([AV.ref 5,ai ↑c].length= [AV.ref 5,ai ↑c].length∧0< [AV.ref 5,ai ↑c].length) (by simp [n2])]<|bk 9 (decide (0<c∧fr.length=0)) (by assumption)<|a_<|zS<|zP 2 [{hs:=[(5,yE [(1000000000000,1000000000000),(5,5)] (dR (fr) (c) (x.kind) ag))],T:=5},yH [(1,yV (ao false))]] [.aa [17,5,9,4,3,0,1] [1000000000000,5,3]] [yI (dR fr c x.kind ag),yB ([AV.ref 5,ai ↑c].length= [AV.ref 5,ai ↑c].length∧0< [AV.ref 5,ai ↑c].length) (by simp [n2]),yB (ao (gy c fr.length x.kind != (0:Int))=ao false) (by simp [n2])]<|zF 17<|a_<|zS<|zP 1 [yH [(1,yV (ao (ik x)))]] [.aa [21,17,5,9,4,3,0,1] [1000000000000,5,3]] [yI (jw x hk hd)]<|bk 21 (!ik x) (by simp_all)<|a_<|zS<|zP 1 [yH [(2,yV (ai (↑x.cL.length:Int)))]] [.aa [25,21,17,5,9,4,3,0,1] [1000000000000,5,3]] [yR (ai (↑x.cL.length:Int))]<|dF 25 ((↑x.cL.length:Int)>1024)<|a_<|zS<|zP 1 [yH ([(7,{b:=false}),(12,{b:=false})]++yg [4,5,6,9,10,11])] [.aa [38,25,21,17,5,9,4,3,0,1] [1000000000000,5,3]] (yM 4 (yB ((x.kind == (5:Int))=false) bD)++yM 4 (yB ((x.kind == (6:Int))=false) bD))<|zF 38<|a_<|zP 1 [{hs:=[(4,yE [(1000000000000,1000000000000),(5,5)] (rr (fr) (c) (x) n6 hd))],T:=4}] [.aa [4,38,25,21,17,5,9,3,0,1] [1000000000000,5,3]] [yI (rr fr c x n6 hd),yB ([AV.ref 5,ai ↑c].length= [AV.ref 5,ai ↑c].length∧0< [AV.ref 5,ai ↑c].length) (by simp [n2])]<|zR (zG [] [yJ 6 (nF fr c x) (by rw [h2,e6]),yR [AV.ref 5,ai ↑c],yR (af cK fr)])
end Go.Proofs.YtjgbhhnghedgdaaGreatDoor
