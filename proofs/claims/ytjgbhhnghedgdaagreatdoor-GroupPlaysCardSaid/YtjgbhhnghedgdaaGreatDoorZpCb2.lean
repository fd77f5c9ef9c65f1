import Derived.Test.YtjgbhhnghedgdaaGreatDoorZpRec5
set_option linter.all false
namespace Go.Proofs.YtjgbhhnghedgdaaGreatDoor
open Go.RowKit
set_option maxRecDepth 100000
set_option maxHeartbeats 4000000
def eH (k:Int):Prop:=k=1∨k=3∨k=4∨k=5
def qq (x:fE):Int:=if x.kind=4∧Lib.validD x.cK=false then 6 else 0
theorem Bp (fr:List Int) (c:Nat) (x:fE) (h:qq x=0) (hk:x.kind≠6) (hx:x.kind=5->wv x.num≤512) (hf:fr.length≤1000) (gH:∀k∈fr,-1000≤k∧k≤1000) (hc:c≤1000000) (hd:x.cK.length≤1000000):gk Tryz.prog 173 [.addr 1000000000000 0,.agg (aY x)] (Br fr c) (ai 0) (Br (lH fr x) (c+1)):=by
 have dL:=EO fr c x hk hx hf gH hc
 by_cases h4:x.kind=4
 ·have hv:Lib.validD x.cK=true:=by
   cases e:Lib.validD x.cK with
   | true=>rfl
   | false=>unfold qq at h;rw [if_pos ⟨h4,e⟩] at h;omega
  refine mV Tryz.func173 52<|zq<|zS<|zP 1 [yH [(6,yV (ao (Lib.validD x.cK)))]] [.aa [15,4,3,0,1] [3,1000000000000,5]] (yM 3 (yB ((x.kind == (4:Int))=true) fi)++ [yI (kb x.cK aj)]++yM 2 (yB ((x.kind == (4:Int))=true) fi))<|bj 15 (!Lib.validD x.cK) (by simp_all)<|a7<|zS<|zQ 1 [yH [(1,{av:=some (ao false),ln:=[(1000000000000,1000000000000),(5,5)],ho:=[(1000000000000,Row.mk 1 false true [AV.ref 5,ai ↑c]),(5,Row.mk 3 true false (af bA fr))]})]] [yI (mB fr c aj),yB ([AV.ref 5,ai ↑c].length= [AV.ref 5,ai ↑c].length∧0< [AV.ref 5,ai ↑c].length) ⟨rfl,Nat.succ_pos _⟩]<|zF 17<|a7<|zP 2 [yH [(2,{av:=some (AV.br []),ln:=[(1000000000000,1000000000000),(5,5)],ho:=[(1000000000000,Row.mk 1 false true [AV.ref 5,ai (↑(c+1):Int)]),(5,Row.mk 3 true false (af bA (lH fr x)))]})],{}] [.aa [4,17,15,3,0,1] [1000000000000,5,3]] [yI dL,yB ([AV.ref 5,ai ↑c].length= [AV.ref 5,ai (↑(c+1):Int)].length∧0< [AV.ref 5,ai (↑(c+1):Int)].length) ⟨rfl,Nat.succ_pos _⟩]<|zR (zG [] [yR (Value.int .i64 0),yR [AV.ref 5,ai (↑(c+1):Int)],yR (af bA (lH fr x))])
 ·refine mV Tryz.func173 52<|zq<|zS<|zP 1 [yH ([(8,{b:=false})]++yg [4,5,6,7])] [.aa [15,4,3,0,1] [3,1000000000000,5]] (yM 5 (yB ((x.kind == (4:Int))=false) bE))<|zF 15<|a7<|zS<|zQ 1 [yH [(1,{av:=some (ao false),ln:=[(1000000000000,1000000000000),(5,5)],ho:=[(1000000000000,Row.mk 1 false true [AV.ref 5,ai ↑c]),(5,Row.mk 3 true false (af bA fr))]})]] [yI (mB fr c aj),yB ([AV.ref 5,ai ↑c].length= [AV.ref 5,ai ↑c].length∧0< [AV.ref 5,ai ↑c].length) ⟨rfl,Nat.succ_pos _⟩]<|zF 17<|a7<|zP 2 [yH [(2,{av:=some (AV.br []),ln:=[(1000000000000,1000000000000),(5,5)],ho:=[(1000000000000,Row.mk 1 false true [AV.ref 5,ai (↑(c+1):Int)]),(5,Row.mk 3 true false (af bA (lH fr x)))]})],{}] [.aa [4,17,15,3,0,1] [1000000000000,5,3]] [yI dL,yB ([AV.ref 5,ai ↑c].length= [AV.ref 5,ai (↑(c+1):Int)].length∧0< [AV.ref 5,ai (↑(c+1):Int)].length) ⟨rfl,Nat.succ_pos _⟩]<|zR (zG [] [yR (Value.int .i64 0),yR [AV.ref 5,ai (↑(c+1):Int)],yR (af bA (lH fr x))])
theorem yE (fr:List Int) (c:Nat) (x:fE) (h:qq x≠0) (hd:x.cK.length≤1000000):gk Tryz.prog 173 [.addr 1000000000000 0,.agg (aY x)] (Br fr c) (ai 6) (Br fr c):=by
 have h2:x.kind=4∧Lib.validD x.cK=false:=by
  apply Classical.byContradiction
  intro q
  exact h (if_neg q)
 obtain ⟨h4,hv⟩:=h2
 refine mV Tryz.func173 52<|zq<|zS<|zP 1 [yH [(6,yV (ao (Lib.validD x.cK)))]] [.aa [15,4,3,0,1] [3,1000000000000,5]] (yM 3 (yB ((x.kind == (4:Int))=true) fi)++ [yI (kb x.cK aj)]++yM 2 (yB ((x.kind == (4:Int))=true) fi))<|dr 15 (!Lib.validD x.cK) (by simp_all)<|zq<|dt (zG [] [yR (Value.int .i64 6),yR [AV.ref 5,ai ↑c],yR (af bA fr)])
def gV (x:fE):Bool:=if x.kind=3∨x.kind=4 then decide (x.num=0) else x.cK == []
theorem jc (x:fE) (hk:eH x.kind) (hd:x.cK.length≤1000000):bK Tryz.prog 172 [.agg (aY x)] (ao (gV x)):=by
 rcases hk with h|h|h|h
 ·have e:gV x=(x.cK == []):=if_neg aj
  refine zO Tryz.func172 34<|zq<|zS<|zq<|zB 0<|zS<|zP 1 [{}] [.aa [5,4,2,1,0] [1]] []<|bj 5 (x.kind == (3:Int)) bE<|zX {} []<|ak<|bj 5 (x.kind == (4:Int)) bE<|zP 1 [{}] [.aa [11,5,4,2,1,0] [1]] []<|bj 11 (x.kind == (8:Int)) bE<|zq<|bj 21 (x.kind == (7:Int)) bE<|zK<|aL<|ak<|zP 1 [yH [(2,yV (ao (x.cK == [])))]] [.aa [2,21,11,5,4,1,0] [1]] [yI (fY x.cK [])]<|zR (zV [yB (Value.bool (x.cK == [])=Value.bool (gV x)) (by rw [e])])
 ·have e:gV x=decide (x.num=0):=if_pos aj
  refine zO Tryz.func172 34<|zq<|zS<|zq<|zB 0<|zS<|zP 1 [{}] [.aa [5,4,2,1,0] [1]] []<|dr 5 (x.kind == (3:Int)) fi<|a7<|dr 5 (x.kind == (3:Int)) fi<|zP 1 [yH [(2,yV (ao (x.num == 0)))]] [.aa [2,5,4,1,0] [1]] [yI (fm x.num 0)]<|zR<|bc<|aK (zV [yB (Value.bool (x.num == 0)=Value.bool (gV x)) (by rw [e];rfl)])
 ·have e:gV x=decide (x.num=0):=if_pos aj
  refine zO Tryz.func172 34<|zq<|zS<|zq<|zB 0<|zS<|zP 1 [{}] [.aa [5,4,2,1,0] [1]] []<|bj 5 (x.kind == (3:Int)) bE<|zX {} []<|ak<|dr 5 (x.kind == (4:Int)) fi<|zP 1 [yH [(2,yV (ao (x.num == 0)))]] [.aa [2,5,4,1,0] [1]] [yI (fm x.num 0)]<|zR<|bc<|aK (zV [yB (Value.bool (x.num == 0)=Value.bool (gV x)) (by rw [e];rfl)])
 ·have e:gV x=(x.cK == []):=if_neg aj
  refine zO Tryz.func172 34<|zq<|zS<|zq<|zB 0<|zS<|zP 1 [{}] [.aa [5,4,2,1,0] [1]] []<|bj 5 (x.kind == (3:Int)) bE<|zX {} []<|ak<|bj 5 (x.kind == (4:Int)) bE<|zP 1 [{}] [.aa [11,5,4,2,1,0] [1]] []<|bj 11 (x.kind == (8:Int)) bE<|zq<|bj 21 (x.kind == (7:Int)) bE<|zK<|aL<|ak<|zP 1 [yH [(2,yV (ao (x.cK == [])))]] [.aa [2,21,11,5,4,1,0] [1]] [yI (fY x.cK [])]<|zR (zV [yB (Value.bool (x.cK == [])=Value.bool (gV x)) (by rw [e])])
def mM (fr:List Int) (c:Nat) (x:fE):Int:=if 0<c∧fr.length=0 then 2 else if fh c fr.length x.kind≠0 then fh c fr.length x.kind else if gV x=false then 4 else if 1024<x.cK.length then 8 else if x.kind=5∧512<wv x.num then 8 else qq x
theorem Fb (fr:List Int) (c:Nat) (x:fE) (h:mM fr c x=0) (hk:eH x.kind) (hf:fr.length≤1000) (gH:∀k∈fr,-1000≤k∧k≤1000) (hc:c≤1000000) (hd:x.cK.length≤1000000):gk Tryz.prog 162 [.addr 1000000000000 0,.agg (aY x)] (Br fr c) (ai 0) (Br (lH fr x) (c+1)):=by
 have n1:¬(0<c∧fr.length=0):=fun q=>by unfold mM at h;rw [if_pos q] at h;omega
 have h2:mM fr c x=if fh c fr.length x.kind≠0 then fh c fr.length x.kind else if gV x=false then 4 else if 1024<x.cK.length then 8 else if x.kind=5∧512<wv x.num then 8 else qq x:=if_neg n1
 have n2:fh c fr.length x.kind=0:=Classical.byContradiction fun q=>q (by rw [h2,if_pos q] at h;exact h)
 rw [if_neg aj] at h2
 have n3:gV x=true:=by
  cases e:gV x with
  | true=>rfl
  | false=>rw [h2,if_pos e] at h;omega
 rw [if_neg (by rw [n3];decide)] at h2
 have n4:¬1024<x.cK.length:=fun q=>by rw [h2,if_pos q] at h;omega
 rw [if_neg n4] at h2
 have n5:¬(x.kind=5∧512<wv x.num):=fun q=>by rw [h2,if_pos q] at h;omega
 rw [if_neg n5] at h2
 have n6:qq x=0:=aj
 have dL:=Bp fr c x n6 (by rcases hk with q|q|q|q<;>omega) (fun q=>aj) hf gH hc hd
 have NT:decide (0<c∧fr.length=0)=false:=decide_eq_false n1
 by_cases h5:x.kind=5
 ·refine mV Tryz.func162 44<|zq<|zS<|zP 1 [yH [(3,{av:=some (ao (decide (0<c∧fr.length=0))),ln:=[(1000000000000,1000000000000),(5,5)],ho:=[(1000000000000,Row.mk 1 false true [AV.ref 5,ai ↑c]),(5,Row.mk 3 true false (af bA fr))]})]] [.aa [9,4,3,0,1] [1000000000000,5,3]] [yI (fX fr c aj),yB ([AV.ref 5,ai ↑c].length= [AV.ref 5,ai ↑c].length∧0< [AV.ref 5,ai ↑c].length) (by simp [n2])]<|bj 9 (decide (0<c∧fr.length=0)) (by assumption)<|a7<|zS<|zP 2 [{hs:=[(5,{av:=some (ai (fh c fr.length x.kind)),ln:=[(1000000000000,1000000000000),(5,5)],ho:=[(1000000000000,Row.mk 1 false true [AV.ref 5,ai ↑c]),(5,Row.mk 3 true false (af bA fr))]})],T:=5},yH [(1,yV (ao false))]] [.aa [17,5,9,4,3,0,1] [1000000000000,5,3]] [yI (iu fr c x.kind aj),yB ([AV.ref 5,ai ↑c].length= [AV.ref 5,ai ↑c].length∧0< [AV.ref 5,ai ↑c].length) (by simp [n2]),yB (ao (fh c fr.length x.kind != (0:Int))=ao false) (by simp [n2])]<|zF 17<|a7<|zS<|zP 1 [yH [(1,yV (ao (gV x)))]] [.aa [21,17,5,9,4,3,0,1] [1000000000000,5,3]] [yI (jc x hk hd)]<|bj 21 (!gV x) (by simp_all)<|a7<|zS<|zP 1 [yH [(2,yV (ai (↑x.cK.length:Int)))]] [.aa [25,21,17,5,9,4,3,0,1] [1000000000000,5,3]] [yR (ai (↑x.cK.length:Int))]<|dp 25 ((↑x.cK.length:Int)>1024)<|a7<|zS<|zP 1 [{}] [.aa [38,25,21,17,5,9,4,3,0,1] [1000000000000,5,3]] (yM 4 (yB ((x.kind == (5:Int))=true) fi)++yM 4 (yR true))<|dp 38 (wv x.num>512)<|a7<|zP 1 [{hs:=[(4,{av:=some (ai 0),ln:=[(1000000000000,1000000000000),(5,5)],ho:=[(1000000000000,Row.mk 1 false true [AV.ref 5,ai (↑(c+1):Int)]),(5,Row.mk 3 true false (af bA (lH fr x)))]})],T:=4}] [.aa [4,38,25,21,17,5,9,3,0,1] [1000000000000,5,3]] [yI dL,yB ([AV.ref 5,ai ↑c].length= [AV.ref 5,ai (↑(c+1):Int)].length∧0< [AV.ref 5,ai (↑(c+1):Int)].length) (by simp [n2])]<|zR (zG [] [yR (Value.int .i64 0),yR [AV.ref 5,ai (↑(c+1):Int)],yR (af bA (lH fr x))])
 ·have Fl:x.kind≠6:=by rcases hk with q|q|q|q<;>omega
  refine mV Tryz.func162 44<|zq<|zS<|zP 1 [yH [(3,{av:=some (ao (decide (0<c∧fr.length=0))),ln:=[(1000000000000,1000000000000),(5,5)],ho:=[(1000000000000,Row.mk 1 false true [AV.ref 5,ai ↑c]),(5,Row.mk 3 true false (af bA fr))]})]] [.aa [9,4,3,0,1] [1000000000000,5,3]] [yI (fX fr c aj),yB ([AV.ref 5,ai ↑c].length= [AV.ref 5,ai ↑c].length∧0< [AV.ref 5,ai ↑c].length) (by simp [n2])]<|bj 9 (decide (0<c∧fr.length=0)) (by assumption)<|a7<|zS<|zP 2 [{hs:=[(5,{av:=some (ai (fh c fr.length x.kind)),ln:=[(1000000000000,1000000000000),(5,5)],ho:=[(1000000000000,Row.mk 1 false true [AV.ref 5,ai ↑c]),(5,Row.mk 3 true false (af bA fr))]})],T:=5},yH [(1,yV (ao false))]] [.aa [17,5,9,4,3,0,1] [1000000000000,5,3]] [yI (iu fr c x.kind aj),yB ([AV.ref 5,ai ↑c].length= [AV.ref 5,ai ↑c].length∧0< [AV.ref 5,ai ↑c].length) (by simp [n2]),yB (ao (fh c fr.length x.kind != (0:Int))=ao false) (by simp [n2])]<|zF 17<|a7<|zS<|zP 1 [yH [(1,yV (ao (gV x)))]] [.aa [21,17,5,9,4,3,0,1] [1000000000000,5,3]] [yI (jc x hk hd)]<|bj 21 (!gV x) (by simp_all)<|a7<|zS<|zP 1 [yH [(2,yV (ai (↑x.cK.length:Int)))]] [.aa [25,21,17,5,9,4,3,0,1] [1000000000000,5,3]] [yR (ai (↑x.cK.length:Int))]<|dp 25 ((↑x.cK.length:Int)>1024)<|a7<|zS<|zP 1 [yH ([(7,{b:=false}),(12,{b:=false})]++yg [4,5,6,9,10,11])] [.aa [38,25,21,17,5,9,4,3,0,1] [1000000000000,5,3]] (yM 4 (yB ((x.kind == (5:Int))=false) bE)++yM 4 (yB ((x.kind == (6:Int))=false) bE))<|zF 38<|a7<|zP 1 [{hs:=[(4,{av:=some (ai 0),ln:=[(1000000000000,1000000000000),(5,5)],ho:=[(1000000000000,Row.mk 1 false true [AV.ref 5,ai (↑(c+1):Int)]),(5,Row.mk 3 true false (af bA (lH fr x)))]})],T:=4}] [.aa [4,38,25,21,17,5,9,3,0,1] [1000000000000,5,3]] [yI dL,yB ([AV.ref 5,ai ↑c].length= [AV.ref 5,ai (↑(c+1):Int)].length∧0< [AV.ref 5,ai (↑(c+1):Int)].length) (by simp [n2])]<|zR (zG [] [yR (Value.int .i64 0),yR [AV.ref 5,ai (↑(c+1):Int)],yR (af bA (lH fr x))])
theorem B9 (fr:List Int) (c:Nat) (x:fE) (h:mM fr c x≠0) (hk:eH x.kind) (hf:fr.length≤1000) (hc:c≤1000000) (hd:x.cK.length≤1000000):gk Tryz.prog 162 [.addr 1000000000000 0,.agg (aY x)] (Br fr c) (ai (mM fr c x)) (Br fr c):=by
 have _:=hc
 by_cases n1:0<c∧fr.length=0
 ·have e:mM fr c x=2:=if_pos n1
  have NT:decide (0<c∧fr.length=0)=true:=decide_eq_true n1
  refine mV Tryz.func162 44<|zq<|zS<|zP 1 [yH [(3,{av:=some (ao (decide (0<c∧fr.length=0))),ln:=[(1000000000000,1000000000000),(5,5)],ho:=[(1000000000000,Row.mk 1 false true [AV.ref 5,ai ↑c]),(5,Row.mk 3 true false (af bA fr))]})]] [.aa [9,4,3,0,1] [1000000000000,5,3]] [yI (fX fr c aj),yB ([AV.ref 5,ai ↑c].length= [AV.ref 5,ai ↑c].length∧0< [AV.ref 5,ai ↑c].length) ⟨rfl,Nat.succ_pos _⟩]<|dr 9 (decide (0<c∧fr.length=0)) (by assumption)<|zq<|dt (zG [] [yJ 2 (mM fr c x) (by rw [e]),yR [AV.ref 5,ai ↑c],yR (af bA fr)])
 have NT:decide (0<c∧fr.length=0)=false:=decide_eq_false n1
 have h2:mM fr c x=if fh c fr.length x.kind≠0 then fh c fr.length x.kind else if gV x=false then 4 else if 1024<x.cK.length then 8 else if x.kind=5∧512<wv x.num then 8 else qq x:=if_neg n1
 by_cases n2:fh c fr.length x.kind=0
 case neg =>
  rw [if_pos n2] at h2
  refine mV Tryz.func162 44<|zq<|zS<|zP 1 [yH [(3,{av:=some (ao (decide (0<c∧fr.length=0))),ln:=[(1000000000000,1000000000000),(5,5)],ho:=[(1000000000000,Row.mk 1 false true [AV.ref 5,ai ↑c]),(5,Row.mk 3 true false (af bA fr))]})]] [.aa [9,4,3,0,1] [1000000000000,5,3]] [yI (fX fr c aj),yB ([AV.ref 5,ai ↑c].length= [AV.ref 5,ai ↑c].length∧0< [AV.ref 5,ai ↑c].length) (by simp [n2])]<|bj 9 (decide (0<c∧fr.length=0)) (by assumption)<|a7<|zS<|zP 2 [{hs:=[(5,{av:=some (ai (fh c fr.length x.kind)),ln:=[(1000000000000,1000000000000),(5,5)],ho:=[(1000000000000,Row.mk 1 false true [AV.ref 5,ai ↑c]),(5,Row.mk 3 true false (af bA fr))]})],T:=5},yH [(1,yV (ao true))]] [.aa [17,5,9,4,3,0,1] [1000000000000,5,3]] [yI (iu fr c x.kind aj),yB ([AV.ref 5,ai ↑c].length= [AV.ref 5,ai ↑c].length∧0< [AV.ref 5,ai ↑c].length) (by simp [n2]),yB (ao (fh c fr.length x.kind != (0:Int))=ao true) (by simp [n2])]<|zT 17<|zq<|dt (zG [] [yJ (fh c fr.length x.kind) (mM fr c x) (by rw [h2]),yR [AV.ref 5,ai ↑c],yR (af bA fr)])
 rw [if_neg aj] at h2
 cases n3:gV x with
 | false =>
  rw [if_pos n3] at h2
  refine mV Tryz.func162 44<|zq<|zS<|zP 1 [yH [(3,{av:=some (ao (decide (0<c∧fr.length=0))),ln:=[(1000000000000,1000000000000),(5,5)],ho:=[(1000000000000,Row.mk 1 false true [AV.ref 5,ai ↑c]),(5,Row.mk 3 true false (af bA fr))]})]] [.aa [9,4,3,0,1] [1000000000000,5,3]] [yI (fX fr c aj),yB ([AV.ref 5,ai ↑c].length= [AV.ref 5,ai ↑c].length∧0< [AV.ref 5,ai ↑c].length) (by simp [n2])]<|bj 9 (decide (0<c∧fr.length=0)) (by assumption)<|a7<|zS<|zP 2 [{hs:=[(5,{av:=some (ai (fh c fr.length x.kind)),ln:=[(1000000000000,1000000000000),(5,5)],ho:=[(1000000000000,Row.mk 1 false true [AV.ref 5,ai ↑c]),(5,Row.mk 3 true false (af bA fr))]})],T:=5},yH [(1,yV (ao false))]] [.aa [17,5,9,4,3,0,1] [1000000000000,5,3]] [yI (iu fr c x.kind aj),yB ([AV.ref 5,ai ↑c].length= [AV.ref 5,ai ↑c].length∧0< [AV.ref 5,ai ↑c].length) (by simp [n2]),yB (ao (fh c fr.length x.kind != (0:Int))=ao false) (by simp [n2])]<|zF 17<|a7<|zS<|zP 1 [yH [(1,yV (ao (gV x)))]] [.aa [21,17,5,9,4,3,0,1] [1000000000000,5,3]] [yI (jc x hk hd)]<|dr 21 (!gV x) (by simp_all)<|zq<|dt (zG [] [yJ 4 (mM fr c x) (by rw [h2]),yR [AV.ref 5,ai ↑c],yR (af bA fr)])
 | true =>
 rw [if_neg (by rw [n3];decide)] at h2
 by_cases n4:1024<x.cK.length
 ·rw [if_pos n4] at h2
  refine mV Tryz.func162 44<|zq<|zS<|zP 1 [yH [(3,{av:=some (ao (decide (0<c∧fr.length=0))),ln:=[(1000000000000,1000000000000),(5,5)],ho:=[(1000000000000,Row.mk 1 false true [AV.ref 5,ai ↑c]),(5,Row.mk 3 true false (af bA fr))]})]] [.aa [9,4,3,0,1] [1000000000000,5,3]] [yI (fX fr c aj),yB ([AV.ref 5,ai ↑c].length= [AV.ref 5,ai ↑c].length∧0< [AV.ref 5,ai ↑c].length) (by simp [n2])]<|bj 9 (decide (0<c∧fr.length=0)) (by assumption)<|a7<|zS<|zP 2 [{hs:=[(5,{av:=some (ai (fh c fr.length x.kind)),ln:=[(1000000000000,1000000000000),(5,5)],ho:=[(1000000000000,Row.mk 1 false true [AV.ref 5,ai ↑c]),(5,Row.mk 3 true false (af bA fr))]})],T:=5},yH [(1,yV (ao false))]] [.aa [17,5,9,4,3,0,1] [1000000000000,5,3]] [yI (iu fr c x.kind aj),yB ([AV.ref 5,ai ↑c].length= [AV.ref 5,ai ↑c].length∧0< [AV.ref 5,ai ↑c].length) (by simp [n2]),yB (ao (fh c fr.length x.kind != (0:Int))=ao false) (by simp [n2])]<|zF 17<|a7<|zS<|zP 1 [yH [(1,yV (ao (gV x)))]] [.aa [21,17,5,9,4,3,0,1] [1000000000000,5,3]] [yI (jc x hk hd)]<|bj 21 (!gV x) (by simp_all)<|a7<|zS<|zP 1 [yH [(2,yV (ai (↑x.cK.length:Int)))]] [.aa [25,21,17,5,9,4,3,0,1] [1000000000000,5,3]] [yR (ai (↑x.cK.length:Int))]<|ib 25 ((↑x.cK.length:Int)>1024)<|zq<|dt (zG [] [yJ 8 (mM fr c x) (by rw [h2]),yR [AV.ref 5,ai ↑c],yR (af bA fr)])
 rw [if_neg n4] at h2
 by_cases n5:x.kind=5
 ·by_cases n7:512<wv x.num
  ·rw [if_pos ⟨n5,n7⟩] at h2
   refine mV Tryz.func162 44<|zq<|zS<|zP 1 [yH [(3,{av:=some (ao (decide (0<c∧fr.length=0))),ln:=[(1000000000000,1000000000000),(5,5)],ho:=[(1000000000000,Row.mk 1 false true [AV.ref 5,ai ↑c]),(5,Row.mk 3 true false (af bA fr))]})]] [.aa [9,4,3,0,1] [1000000000000,5,3]] [yI (fX fr c aj),yB ([AV.ref 5,ai ↑c].length= [AV.ref 5,ai ↑c].length∧0< [AV.ref 5,ai ↑c].length) (by simp [n2])]<|bj 9 (decide (0<c∧fr.length=0)) (by assumption)<|a7<|zS<|zP 2 [{hs:=[(5,{av:=some (ai (fh c fr.length x.kind)),ln:=[(1000000000000,1000000000000),(5,5)],ho:=[(1000000000000,Row.mk 1 false true [AV.ref 5,ai ↑c]),(5,Row.mk 3 true false (af bA fr))]})],T:=5},yH [(1,yV (ao false))]] [.aa [17,5,9,4,3,0,1] [1000000000000,5,3]] [yI (iu fr c x.kind aj),yB ([AV.ref 5,ai ↑c].length= [AV.ref 5,ai ↑c].length∧0< [AV.ref 5,ai ↑c].length) (by simp [n2]),yB (ao (fh c fr.length x.kind != (0:Int))=ao false) (by simp [n2])]<|zF 17<|a7<|zS<|zP 1 [yH [(1,yV (ao (gV x)))]] [.aa [21,17,5,9,4,3,0,1] [1000000000000,5,3]] [yI (jc x hk hd)]<|bj 21 (!gV x) (by simp_all)<|a7<|zS<|zP 1 [yH [(2,yV (ai (↑x.cK.length:Int)))]] [.aa [25,21,17,5,9,4,3,0,1] [1000000000000,5,3]] [yR (ai (↑x.cK.length:Int))]<|dp 25 ((↑x.cK.length:Int)>1024)<|a7<|zS<|zP 1 [{}] [.aa [38,25,21,17,5,9,4,3,0,1] [1000000000000,5,3]] (yM 4 (yB ((x.kind == (5:Int))=true) fi)++yM 4 (yR true))<|ib 38 (wv x.num>512)<|zq<|dt (zG [] [yJ 8 (mM fr c x) (by rw [h2]),yR [AV.ref 5,ai ↑c],yR (af bA fr)])
  ·rw [if_neg (fun q=>n7 q.2)] at h2
   have e6:qq x=0:=by unfold qq;rw [if_neg aj]
   exact absurd (h2.trans e6) h
 ·have Fl:x.kind≠6:=by rcases hk with q|q|q|q<;>omega
  rw [if_neg (fun q=>n5 q.1)] at h2
  have n6:qq x≠0:=aj
  have e6:qq x=6:=by
   unfold qq at n6 ⊢
   split
   ·rfl
   ·rename_i q;rw [if_neg q] at n6;omega
  refine mV Tryz.func162 44<|zq<|zS<|zP 1 [yH [(3,{av:=some (ao (decide (0<c∧fr.length=0))),ln:=[(1000000000000,1000000000000),(5,5)],ho:=[(1000000000000,Row.mk 1 false true [AV.ref 5,ai ↑c]),(5,Row.mk 3 true false (af bA fr))]})]] [.aa [9,4,3,0,1] [1000000000000,5,3]] [yI (fX fr c aj),yB ([AV.ref 5,ai ↑c].length= [AV.ref 5,ai ↑c].length∧0< [AV.ref 5,ai ↑c].length) (by simp [n2])]<|bj 9 (decide (0<c∧fr.length=0)) (by assumption)<|a7<|zS<|zP 2 [{hs:=[(5,{av:=some (ai (fh c fr.length x.kind)),ln:=[(1000000000000,1000000000000),(5,5)],ho:=[(1000000000000,Row.mk 1 false true [AV.ref 5,ai ↑c]),(5,Row.mk 3 true false (af bA fr))]})],T:=5},yH [(1,yV (ao false))]] [.aa [17,5,9,4,3,0,1] [1000000000000,5,3]] [yI (iu fr c x.kind aj),yB ([AV.ref 5,ai ↑c].length= [AV.ref 5,ai ↑c].length∧0< [AV.ref 5,ai ↑c].length) (by simp [n2]),yB (ao (fh c fr.length x.kind != (0:Int))=ao false) (by simp [n2])]<|zF 17<|a7<|zS<|zP 1 [yH [(1,yV (ao (gV x)))]] [.aa [21,17,5,9,4,3,0,1] [1000000000000,5,3]] [yI (jc x hk hd)]<|bj 21 (!gV x) (by simp_all)<|a7<|zS<|zP 1 [yH [(2,yV (ai (↑x.cK.length:Int)))]] [.aa [25,21,17,5,9,4,3,0,1] [1000000000000,5,3]] [yR (ai (↑x.cK.length:Int))]<|dp 25 ((↑x.cK.length:Int)>1024)<|a7<|zS<|zP 1 [yH ([(7,{b:=false}),(12,{b:=false})]++yg [4,5,6,9,10,11])] [.aa [38,25,21,17,5,9,4,3,0,1] [1000000000000,5,3]] (yM 4 (yB ((x.kind == (5:Int))=false) bE)++yM 4 (yB ((x.kind == (6:Int))=false) bE))<|zF 38<|a7<|zP 1 [{hs:=[(4,{av:=some (ai 6),ln:=[(1000000000000,1000000000000),(5,5)],ho:=[(1000000000000,Row.mk 1 false true [AV.ref 5,ai ↑c]),(5,Row.mk 3 true false (af bA fr))]})],T:=4}] [.aa [4,38,25,21,17,5,9,3,0,1] [1000000000000,5,3]] [yI (yE fr c x n6 hd),yB ([AV.ref 5,ai ↑c].length= [AV.ref 5,ai ↑c].length∧0< [AV.ref 5,ai ↑c].length) (by simp [n2])]<|zR (zG [] [yJ 6 (mM fr c x) (by rw [h2,e6]),yR [AV.ref 5,ai ↑c],yR (af bA fr)])
end Go.Proofs.YtjgbhhnghedgdaaGreatDoor
