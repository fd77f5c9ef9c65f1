import Derived.Test.YtjgbhhnghedgdaaGreatDoorZsRec5
set_option linter.all false
namespace Go.Proofs.YtjgbhhnghedgdaaGreatDoor
open Go.RowKit
set_option maxRecDepth 100000
set_option maxHeartbeats 4000000
def ea (k:Int):Prop:=k=1∨k=3∨k=4∨k=5
def qg (x:fo):Int:=if x.kind=4∧Lib.validD x.cC=false then 6 else 0
theorem A5 (fr:List Int) (c:Nat) (x:fo) (h:qg x=0) (hk:x.kind≠6) (hx:x.kind=5->wv x.num≤512) (hf:fr.length≤1000) (gv:∀k∈fr,-1000≤k∧k≤1000) (hc:c≤1000000) (hd:x.cC.length≤1000000):gb Tryz.prog 173 [.addr 1000000000000 0,.agg (aU x)] (A8 fr c) (ai 0) (A8 (lE fr x) (c+1)):=by
 have dI:=EA fr c x hk hx hf gv hc
 by_cases h4:x.kind=4
 ·have hv:Lib.validD x.cC=true:=by
   cases e:Lib.validD x.cC with
   | true=>rfl
   | false=>unfold qg at h;rw [if_pos ⟨h4,e⟩] at h;omega
  refine mN Tryz.func173 52<|zq<|zS<|zP 1 [yH [(6,yV (ao (Lib.validD x.cC)))]] [.aa [15,4,3,0,1] [3,1000000000000,5]] (yM 3 (yB ((x.kind == (4:Int))=true) fX)++ [yI (j_ x.cC ah)]++yM 2 (yB ((x.kind == (4:Int))=true) fX))<|bo 15 (!Lib.validD x.cC) (by simp_all)<|a8<|zS<|zQ 1 [yH [(1,{av:=some (ao false),ln:=[(1000000000000,1000000000000),(5,5)],ho:=[(1000000000000,Row.mk 1 false true [AV.ref 5,ai ↑c]),(5,Row.mk 3 true false (af bw fr))]})]] [yI (mv fr c ah),yB ([AV.ref 5,ai ↑c].length= [AV.ref 5,ai ↑c].length∧0< [AV.ref 5,ai ↑c].length) ⟨rfl,Nat.succ_pos _⟩]<|zF 17<|a8<|zP 2 [yH [(2,{av:=some (AV.br []),ln:=[(1000000000000,1000000000000),(5,5)],ho:=[(1000000000000,Row.mk 1 false true [AV.ref 5,ai (↑(c+1):Int)]),(5,Row.mk 3 true false (af bw (lE fr x)))]})],{}] [.aa [4,17,15,3,0,1] [1000000000000,5,3]] [yI dI,yB ([AV.ref 5,ai ↑c].length= [AV.ref 5,ai (↑(c+1):Int)].length∧0< [AV.ref 5,ai (↑(c+1):Int)].length) ⟨rfl,Nat.succ_pos _⟩]<|zR (zG [] [yR (Value.int .i64 0),yR [AV.ref 5,ai (↑(c+1):Int)],yR (af bw (lE fr x))])
 ·refine mN Tryz.func173 52<|zq<|zS<|zP 1 [yH ([(8,{b:=false})]++yg [4,5,6,7])] [.aa [15,4,3,0,1] [3,1000000000000,5]] (yM 5 (yB ((x.kind == (4:Int))=false) bR))<|zF 15<|a8<|zS<|zQ 1 [yH [(1,{av:=some (ao false),ln:=[(1000000000000,1000000000000),(5,5)],ho:=[(1000000000000,Row.mk 1 false true [AV.ref 5,ai ↑c]),(5,Row.mk 3 true false (af bw fr))]})]] [yI (mv fr c ah),yB ([AV.ref 5,ai ↑c].length= [AV.ref 5,ai ↑c].length∧0< [AV.ref 5,ai ↑c].length) ⟨rfl,Nat.succ_pos _⟩]<|zF 17<|a8<|zP 2 [yH [(2,{av:=some (AV.br []),ln:=[(1000000000000,1000000000000),(5,5)],ho:=[(1000000000000,Row.mk 1 false true [AV.ref 5,ai (↑(c+1):Int)]),(5,Row.mk 3 true false (af bw (lE fr x)))]})],{}] [.aa [4,17,15,3,0,1] [1000000000000,5,3]] [yI dI,yB ([AV.ref 5,ai ↑c].length= [AV.ref 5,ai (↑(c+1):Int)].length∧0< [AV.ref 5,ai (↑(c+1):Int)].length) ⟨rfl,Nat.succ_pos _⟩]<|zR (zG [] [yR (Value.int .i64 0),yR [AV.ref 5,ai (↑(c+1):Int)],yR (af bw (lE fr x))])
theorem ye (fr:List Int) (c:Nat) (x:fo) (h:qg x≠0) (hd:x.cC.length≤1000000):gb Tryz.prog 173 [.addr 1000000000000 0,.agg (aU x)] (A8 fr c) (ai 6) (A8 fr c):=by
 have h2:x.kind=4∧Lib.validD x.cC=false:=by
  apply Classical.byContradiction
  intro q
  exact h (if_neg q)
 obtain ⟨h4,hv⟩:=h2
 refine mN Tryz.func173 52<|zq<|zS<|zP 1 [yH [(6,yV (ao (Lib.validD x.cC)))]] [.aa [15,4,3,0,1] [3,1000000000000,5]] (yM 3 (yB ((x.kind == (4:Int))=true) fX)++ [yI (j_ x.cC ah)]++yM 2 (yB ((x.kind == (4:Int))=true) fX))<|dQ 15 (!Lib.validD x.cC) (by simp_all)<|zq<|dW (zG [] [yR (Value.int .i64 6),yR [AV.ref 5,ai ↑c],yR (af bw fr)])
def gK (x:fo):Bool:=if x.kind=3∨x.kind=4 then decide (x.num=0) else x.cC == []
theorem i5 (x:fo) (hk:ea x.kind) (hd:x.cC.length≤1000000):bK Tryz.prog 172 [.agg (aU x)] (ao (gK x)):=by
 rcases hk with h|h|h|h
 ·have e:gK x=(x.cC == []):=if_neg ah
  refine zO Tryz.func172 34<|zq<|zS<|zq<|zB 0<|zS<|zP 1 [{}] [.aa [5,4,2,1,0] [1]] []<|bo 5 (x.kind == (3:Int)) bR<|zX {} []<|ak<|bo 5 (x.kind == (4:Int)) bR<|zP 1 [{}] [.aa [11,5,4,2,1,0] [1]] []<|bo 11 (x.kind == (8:Int)) bR<|zq<|bo 21 (x.kind == (7:Int)) bR<|zK<|aM<|ak<|zP 1 [yH [(2,yV (ao (x.cC == [])))]] [.aa [2,21,11,5,4,1,0] [1]] [yI (fg x.cC [])]<|zR (zV [yB (Value.bool (x.cC == [])=Value.bool (gK x)) (by rw [e])])
 ·have e:gK x=decide (x.num=0):=if_pos ah
  refine zO Tryz.func172 34<|zq<|zS<|zq<|zB 0<|zS<|zP 1 [{}] [.aa [5,4,2,1,0] [1]] []<|dQ 5 (x.kind == (3:Int)) fX<|a8<|dQ 5 (x.kind == (3:Int)) fX<|zP 1 [yH [(2,yV (ao (x.num == 0)))]] [.aa [2,5,4,1,0] [1]] [yI (fV x.num 0)]<|zR<|bl<|aW (zV [yB (Value.bool (x.num == 0)=Value.bool (gK x)) (by rw [e];rfl)])
 ·have e:gK x=decide (x.num=0):=if_pos ah
  refine zO Tryz.func172 34<|zq<|zS<|zq<|zB 0<|zS<|zP 1 [{}] [.aa [5,4,2,1,0] [1]] []<|bo 5 (x.kind == (3:Int)) bR<|zX {} []<|ak<|dQ 5 (x.kind == (4:Int)) fX<|zP 1 [yH [(2,yV (ao (x.num == 0)))]] [.aa [2,5,4,1,0] [1]] [yI (fV x.num 0)]<|zR<|bl<|aW (zV [yB (Value.bool (x.num == 0)=Value.bool (gK x)) (by rw [e];rfl)])
 ·have e:gK x=(x.cC == []):=if_neg ah
  refine zO Tryz.func172 34<|zq<|zS<|zq<|zB 0<|zS<|zP 1 [{}] [.aa [5,4,2,1,0] [1]] []<|bo 5 (x.kind == (3:Int)) bR<|zX {} []<|ak<|bo 5 (x.kind == (4:Int)) bR<|zP 1 [{}] [.aa [11,5,4,2,1,0] [1]] []<|bo 11 (x.kind == (8:Int)) bR<|zq<|bo 21 (x.kind == (7:Int)) bR<|zK<|aM<|ak<|zP 1 [yH [(2,yV (ao (x.cC == [])))]] [.aa [2,21,11,5,4,1,0] [1]] [yI (fg x.cC [])]<|zR (zV [yB (Value.bool (x.cC == [])=Value.bool (gK x)) (by rw [e])])
def mH (fr:List Int) (c:Nat) (x:fo):Int:=if 0<c∧fr.length=0 then 2 else if eU c fr.length x.kind≠0 then eU c fr.length x.kind else if gK x=false then 4 else if 1024<x.cC.length then 8 else if x.kind=5∧512<wv x.num then 8 else qg x
theorem EY (fr:List Int) (c:Nat) (x:fo) (h:mH fr c x=0) (hk:ea x.kind) (hf:fr.length≤1000) (gv:∀k∈fr,-1000≤k∧k≤1000) (hc:c≤1000000) (hd:x.cC.length≤1000000):gb Tryz.prog 162 [.addr 1000000000000 0,.agg (aU x)] (A8 fr c) (ai 0) (A8 (lE fr x) (c+1)):=by
 have n1:¬(0<c∧fr.length=0):=fun q=>by unfold mH at h;rw [if_pos q] at h;omega
 have h2:mH fr c x=if eU c fr.length x.kind≠0 then eU c fr.length x.kind else if gK x=false then 4 else if 1024<x.cC.length then 8 else if x.kind=5∧512<wv x.num then 8 else qg x:=if_neg n1
 have n2:eU c fr.length x.kind=0:=Classical.byContradiction fun q=>q (by rw [h2,if_pos q] at h;exact h)
 rw [if_neg ah] at h2
 have n3:gK x=true:=by
  cases e:gK x with
  | true=>rfl
  | false=>rw [h2,if_pos e] at h;omega
 rw [if_neg (by rw [n3];decide)] at h2
 have n4:¬1024<x.cC.length:=fun q=>by rw [h2,if_pos q] at h;omega
 rw [if_neg n4] at h2
 have n5:¬(x.kind=5∧512<wv x.num):=fun q=>by rw [h2,if_pos q] at h;omega
 rw [if_neg n5] at h2
 have n6:qg x=0:=ah
 have dI:=A5 fr c x n6 (by rcases hk with q|q|q|q<;>omega) (fun q=>ah) hf gv hc hd
 have NW:decide (0<c∧fr.length=0)=false:=decide_eq_false n1
 by_cases h5:x.kind=5
 ·refine mN Tryz.func162 44<|zq<|zS<|zP 1 [yH [(3,{av:=some (ao (decide (0<c∧fr.length=0))),ln:=[(1000000000000,1000000000000),(5,5)],ho:=[(1000000000000,Row.mk 1 false true [AV.ref 5,ai ↑c]),(5,Row.mk 3 true false (af bw fr))]})]] [.aa [9,4,3,0,1] [1000000000000,5,3]] [yI (fQ fr c ah),yB ([AV.ref 5,ai ↑c].length= [AV.ref 5,ai ↑c].length∧0< [AV.ref 5,ai ↑c].length) (by simp [n2])]<|bo 9 (decide (0<c∧fr.length=0)) (by assumption)<|a8<|zS<|zP 2 [{hs:=[(5,{av:=some (ai (eU c fr.length x.kind)),ln:=[(1000000000000,1000000000000),(5,5)],ho:=[(1000000000000,Row.mk 1 false true [AV.ref 5,ai ↑c]),(5,Row.mk 3 true false (af bw fr))]})],T:=5},yH [(1,yV (ao false))]] [.aa [17,5,9,4,3,0,1] [1000000000000,5,3]] [yI (ia fr c x.kind ah),yB ([AV.ref 5,ai ↑c].length= [AV.ref 5,ai ↑c].length∧0< [AV.ref 5,ai ↑c].length) (by simp [n2]),yB (ao (eU c fr.length x.kind != (0:Int))=ao false) (by simp [n2])]<|zF 17<|a8<|zS<|zP 1 [yH [(1,yV (ao (gK x)))]] [.aa [21,17,5,9,4,3,0,1] [1000000000000,5,3]] [yI (i5 x hk hd)]<|bo 21 (!gK x) (by simp_all)<|a8<|zS<|zP 1 [yH [(2,yV (ai (↑x.cC.length:Int)))]] [.aa [25,21,17,5,9,4,3,0,1] [1000000000000,5,3]] [yR (ai (↑x.cC.length:Int))]<|dK 25 ((↑x.cC.length:Int)>1024)<|a8<|zS<|zP 1 [{}] [.aa [38,25,21,17,5,9,4,3,0,1] [1000000000000,5,3]] (yM 4 (yB ((x.kind == (5:Int))=true) fX)++yM 4 (yR true))<|dK 38 (wv x.num>512)<|a8<|zP 1 [{hs:=[(4,{av:=some (ai 0),ln:=[(1000000000000,1000000000000),(5,5)],ho:=[(1000000000000,Row.mk 1 false true [AV.ref 5,ai (↑(c+1):Int)]),(5,Row.mk 3 true false (af bw (lE fr x)))]})],T:=4}] [.aa [4,38,25,21,17,5,9,3,0,1] [1000000000000,5,3]] [yI dI,yB ([AV.ref 5,ai ↑c].length= [AV.ref 5,ai (↑(c+1):Int)].length∧0< [AV.ref 5,ai (↑(c+1):Int)].length) (by simp [n2])]<|zR (zG [] [yR (Value.int .i64 0),yR [AV.ref 5,ai (↑(c+1):Int)],yR (af bw (lE fr x))])
 ·have E9:x.kind≠6:=by rcases hk with q|q|q|q<;>omega
  refine mN Tryz.func162 44<|zq<|zS<|zP 1 [yH [(3,{av:=some (ao (decide (0<c∧fr.length=0))),ln:=[(1000000000000,1000000000000),(5,5)],ho:=[(1000000000000,Row.mk 1 false true [AV.ref 5,ai ↑c]),(5,Row.mk 3 true false (af bw fr))]})]] [.aa [9,4,3,0,1] [1000000000000,5,3]] [yI (fQ fr c ah),yB ([AV.ref 5,ai ↑c].length= [AV.ref 5,ai ↑c].length∧0< [AV.ref 5,ai ↑c].length) (by simp [n2])]<|bo 9 (decide (0<c∧fr.length=0)) (by assumption)<|a8<|zS<|zP 2 [{hs:=[(5,{av:=some (ai (eU c fr.length x.kind)),ln:=[(1000000000000,1000000000000),(5,5)],ho:=[(1000000000000,Row.mk 1 false true [AV.ref 5,ai ↑c]),(5,Row.mk 3 true false (af bw fr))]})],T:=5},yH [(1,yV (ao false))]] [.aa [17,5,9,4,3,0,1] [1000000000000,5,3]] [yI (ia fr c x.kind ah),yB ([AV.ref 5,ai ↑c].length= [AV.ref 5,ai ↑c].length∧0< [AV.ref 5,ai ↑c].length) (by simp [n2]),yB (ao (eU c fr.length x.kind != (0:Int))=ao false) (by simp [n2])]<|zF 17<|a8<|zS<|zP 1 [yH [(1,yV (ao (gK x)))]] [.aa [21,17,5,9,4,3,0,1] [1000000000000,5,3]] [yI (i5 x hk hd)]<|bo 21 (!gK x) (by simp_all)<|a8<|zS<|zP 1 [yH [(2,yV (ai (↑x.cC.length:Int)))]] [.aa [25,21,17,5,9,4,3,0,1] [1000000000000,5,3]] [yR (ai (↑x.cC.length:Int))]<|dK 25 ((↑x.cC.length:Int)>1024)<|a8<|zS<|zP 1 [yH ([(7,{b:=false}),(12,{b:=false})]++yg [4,5,6,9,10,11])] [.aa [38,25,21,17,5,9,4,3,0,1] [1000000000000,5,3]] (yM 4 (yB ((x.kind == (5:Int))=false) bR)++yM 4 (yB ((x.kind == (6:Int))=false) bR))<|zF 38<|a8<|zP 1 [{hs:=[(4,{av:=some (ai 0),ln:=[(1000000000000,1000000000000),(5,5)],ho:=[(1000000000000,Row.mk 1 false true [AV.ref 5,ai (↑(c+1):Int)]),(5,Row.mk 3 true false (af bw (lE fr x)))]})],T:=4}] [.aa [4,38,25,21,17,5,9,3,0,1] [1000000000000,5,3]] [yI dI,yB ([AV.ref 5,ai ↑c].length= [AV.ref 5,ai (↑(c+1):Int)].length∧0< [AV.ref 5,ai (↑(c+1):Int)].length) (by simp [n2])]<|zR (zG [] [yR (Value.int .i64 0),yR [AV.ref 5,ai (↑(c+1):Int)],yR (af bw (lE fr x))])
theorem BP (fr:List Int) (c:Nat) (x:fo) (h:mH fr c x≠0) (hk:ea x.kind) (hf:fr.length≤1000) (hc:c≤1000000) (hd:x.cC.length≤1000000):gb Tryz.prog 162 [.addr 1000000000000 0,.agg (aU x)] (A8 fr c) (ai (mH fr c x)) (A8 fr c):=by
 have _:=hc
 by_cases n1:0<c∧fr.length=0
 ·have e:mH fr c x=2:=if_pos n1
  have NW:decide (0<c∧fr.length=0)=true:=decide_eq_true n1
  refine mN Tryz.func162 44<|zq<|zS<|zP 1 [yH [(3,{av:=some (ao (decide (0<c∧fr.length=0))),ln:=[(1000000000000,1000000000000),(5,5)],ho:=[(1000000000000,Row.mk 1 false true [AV.ref 5,ai ↑c]),(5,Row.mk 3 true false (af bw fr))]})]] [.aa [9,4,3,0,1] [1000000000000,5,3]] [yI (fQ fr c ah),yB ([AV.ref 5,ai ↑c].length= [AV.ref 5,ai ↑c].length∧0< [AV.ref 5,ai ↑c].length) ⟨rfl,Nat.succ_pos _⟩]<|dQ 9 (decide (0<c∧fr.length=0)) (by assumption)<|zq<|dW (zG [] [yJ 2 (mH fr c x) (by rw [e]),yR [AV.ref 5,ai ↑c],yR (af bw fr)])
 have NW:decide (0<c∧fr.length=0)=false:=decide_eq_false n1
 have h2:mH fr c x=if eU c fr.length x.kind≠0 then eU c fr.length x.kind else if gK x=false then 4 else if 1024<x.cC.length then 8 else if x.kind=5∧512<wv x.num then 8 else qg x:=if_neg n1
 by_cases n2:eU c fr.length x.kind=0
 case neg =>
  rw [if_pos n2] at h2
  refine mN Tryz.func162 44<|zq<|zS<|zP 1 [yH [(3,{av:=some (ao (decide (0<c∧fr.length=0))),ln:=[(1000000000000,1000000000000),(5,5)],ho:=[(1000000000000,Row.mk 1 false true [AV.ref 5,ai ↑c]),(5,Row.mk 3 true false (af bw fr))]})]] [.aa [9,4,3,0,1] [1000000000000,5,3]] [yI (fQ fr c ah),yB ([AV.ref 5,ai ↑c].length= [AV.ref 5,ai ↑c].length∧0< [AV.ref 5,ai ↑c].length) (by simp [n2])]<|bo 9 (decide (0<c∧fr.length=0)) (by assumption)<|a8<|zS<|zP 2 [{hs:=[(5,{av:=some (ai (eU c fr.length x.kind)),ln:=[(1000000000000,1000000000000),(5,5)],ho:=[(1000000000000,Row.mk 1 false true [AV.ref 5,ai ↑c]),(5,Row.mk 3 true false (af bw fr))]})],T:=5},yH [(1,yV (ao true))]] [.aa [17,5,9,4,3,0,1] [1000000000000,5,3]] [yI (ia fr c x.kind ah),yB ([AV.ref 5,ai ↑c].length= [AV.ref 5,ai ↑c].length∧0< [AV.ref 5,ai ↑c].length) (by simp [n2]),yB (ao (eU c fr.length x.kind != (0:Int))=ao true) (by simp [n2])]<|zT 17<|zq<|dW (zG [] [yJ (eU c fr.length x.kind) (mH fr c x) (by rw [h2]),yR [AV.ref 5,ai ↑c],yR (af bw fr)])
 rw [if_neg ah] at h2
 cases n3:gK x with
 | false =>
  rw [if_pos n3] at h2
  refine mN Tryz.func162 44<|zq<|zS<|zP 1 [yH [(3,{av:=some (ao (decide (0<c∧fr.length=0))),ln:=[(1000000000000,1000000000000),(5,5)],ho:=[(1000000000000,Row.mk 1 false true [AV.ref 5,ai ↑c]),(5,Row.mk 3 true false (af bw fr))]})]] [.aa [9,4,3,0,1] [1000000000000,5,3]] [yI (fQ fr c ah),yB ([AV.ref 5,ai ↑c].length= [AV.ref 5,ai ↑c].length∧0< [AV.ref 5,ai ↑c].length) (by simp [n2])]<|bo 9 (decide (0<c∧fr.length=0)) (by assumption)<|a8<|zS<|zP 2 [{hs:=[(5,{av:=some (ai (eU c fr.length x.kind)),ln:=[(1000000000000,1000000000000),(5,5)],ho:=[(1000000000000,Row.mk 1 false true [AV.ref 5,ai ↑c]),(5,Row.mk 3 true false (af bw fr))]})],T:=5},yH [(1,yV (ao false))]] [.aa [17,5,9,4,3,0,1] [1000000000000,5,3]] [yI (ia fr c x.kind ah),yB ([AV.ref 5,ai ↑c].length= [AV.ref 5,ai ↑c].length∧0< [AV.ref 5,ai ↑c].length) (by simp [n2]),yB (ao (eU c fr.length x.kind != (0:Int))=ao false) (by simp [n2])]<|zF 17<|a8<|zS<|zP 1 [yH [(1,yV (ao (gK x)))]] [.aa [21,17,5,9,4,3,0,1] [1000000000000,5,3]] [yI (i5 x hk hd)]<|dQ 21 (!gK x) (by simp_all)<|zq<|dW (zG [] [yJ 4 (mH fr c x) (by rw [h2]),yR [AV.ref 5,ai ↑c],yR (af bw fr)])
 | true =>
 rw [if_neg (by rw [n3];decide)] at h2
 by_cases n4:1024<x.cC.length
 ·rw [if_pos n4] at h2
  refine mN Tryz.func162 44<|zq<|zS<|zP 1 [yH [(3,{av:=some (ao (decide (0<c∧fr.length=0))),ln:=[(1000000000000,1000000000000),(5,5)],ho:=[(1000000000000,Row.mk 1 false true [AV.ref 5,ai ↑c]),(5,Row.mk 3 true false (af bw fr))]})]] [.aa [9,4,3,0,1] [1000000000000,5,3]] [yI (fQ fr c ah),yB ([AV.ref 5,ai ↑c].length= [AV.ref 5,ai ↑c].length∧0< [AV.ref 5,ai ↑c].length) (by simp [n2])]<|bo 9 (decide (0<c∧fr.length=0)) (by assumption)<|a8<|zS<|zP 2 [{hs:=[(5,{av:=some (ai (eU c fr.length x.kind)),ln:=[(1000000000000,1000000000000),(5,5)],ho:=[(1000000000000,Row.mk 1 false true [AV.ref 5,ai ↑c]),(5,Row.mk 3 true false (af bw fr))]})],T:=5},yH [(1,yV (ao false))]] [.aa [17,5,9,4,3,0,1] [1000000000000,5,3]] [yI (ia fr c x.kind ah),yB ([AV.ref 5,ai ↑c].length= [AV.ref 5,ai ↑c].length∧0< [AV.ref 5,ai ↑c].length) (by simp [n2]),yB (ao (eU c fr.length x.kind != (0:Int))=ao false) (by simp [n2])]<|zF 17<|a8<|zS<|zP 1 [yH [(1,yV (ao (gK x)))]] [.aa [21,17,5,9,4,3,0,1] [1000000000000,5,3]] [yI (i5 x hk hd)]<|bo 21 (!gK x) (by simp_all)<|a8<|zS<|zP 1 [yH [(2,yV (ai (↑x.cC.length:Int)))]] [.aa [25,21,17,5,9,4,3,0,1] [1000000000000,5,3]] [yR (ai (↑x.cC.length:Int))]<|jO 25 ((↑x.cC.length:Int)>1024)<|zq<|dW (zG [] [yJ 8 (mH fr c x) (by rw [h2]),yR [AV.ref 5,ai ↑c],yR (af bw fr)])
 rw [if_neg n4] at h2
 by_cases n5:x.kind=5
 ·by_cases n7:512<wv x.num
  ·rw [if_pos ⟨n5,n7⟩] at h2
   refine mN Tryz.func162 44<|zq<|zS<|zP 1 [yH [(3,{av:=some (ao (decide (0<c∧fr.length=0))),ln:=[(1000000000000,1000000000000),(5,5)],ho:=[(1000000000000,Row.mk 1 false true [AV.ref 5,ai ↑c]),(5,Row.mk 3 true false (af bw fr))]})]] [.aa [9,4,3,0,1] [1000000000000,5,3]] [yI (fQ fr c ah),yB ([AV.ref 5,ai ↑c].length= [AV.ref 5,ai ↑c].length∧0< [AV.ref 5,ai ↑c].length) (by simp [n2])]<|bo 9 (decide (0<c∧fr.length=0)) (by assumption)<|a8<|zS<|zP 2 [{hs:=[(5,{av:=some (ai (eU c fr.length x.kind)),ln:=[(1000000000000,1000000000000),(5,5)],ho:=[(1000000000000,Row.mk 1 false true [AV.ref 5,ai ↑c]),(5,Row.mk 3 true false (af bw fr))]})],T:=5},yH [(1,yV (ao false))]] [.aa [17,5,9,4,3,0,1] [1000000000000,5,3]] [yI (ia fr c x.kind ah),yB ([AV.ref 5,ai ↑c].length= [AV.ref 5,ai ↑c].length∧0< [AV.ref 5,ai ↑c].length) (by simp [n2]),yB (ao (eU c fr.length x.kind != (0:Int))=ao false) (by simp [n2])]<|zF 17<|a8<|zS<|zP 1 [yH [(1,yV (ao (gK x)))]] [.aa [21,17,5,9,4,3,0,1] [1000000000000,5,3]] [yI (i5 x hk hd)]<|bo 21 (!gK x) (by simp_all)<|a8<|zS<|zP 1 [yH [(2,yV (ai (↑x.cC.length:Int)))]] [.aa [25,21,17,5,9,4,3,0,1] [1000000000000,5,3]] [yR (ai (↑x.cC.length:Int))]<|dK 25 ((↑x.cC.length:Int)>1024)<|a8<|zS<|zP 1 [{}] [.aa [38,25,21,17,5,9,4,3,0,1] [1000000000000,5,3]] (yM 4 (yB ((x.kind == (5:Int))=true) fX)++yM 4 (yR true))<|jO 38 (wv x.num>512)<|zq<|dW (zG [] [yJ 8 (mH fr c x) (by rw [h2]),yR [AV.ref 5,ai ↑c],yR (af bw fr)])
  ·rw [if_neg (fun q=>n7 q.2)] at h2
   have e6:qg x=0:=by unfold qg;rw [if_neg ah]
   exact absurd (h2.trans e6) h
 ·have E9:x.kind≠6:=by rcases hk with q|q|q|q<;>omega
  rw [if_neg (fun q=>n5 q.1)] at h2
  have n6:qg x≠0:=ah
  have e6:qg x=6:=by
   unfold qg at n6 ⊢
   split
   ·rfl
   ·rename_i q;rw [if_neg q] at n6;omega
  refine mN Tryz.func162 44<|zq<|zS<|zP 1 [yH [(3,{av:=some (ao (decide (0<c∧fr.length=0))),ln:=[(1000000000000,1000000000000),(5,5)],ho:=[(1000000000000,Row.mk 1 false true [AV.ref 5,ai ↑c]),(5,Row.mk 3 true false (af bw fr))]})]] [.aa [9,4,3,0,1] [1000000000000,5,3]] [yI (fQ fr c ah),yB ([AV.ref 5,ai ↑c].length= [AV.ref 5,ai ↑c].length∧0< [AV.ref 5,ai ↑c].length) (by simp [n2])]<|bo 9 (decide (0<c∧fr.length=0)) (by assumption)<|a8<|zS<|zP 2 [{hs:=[(5,{av:=some (ai (eU c fr.length x.kind)),ln:=[(1000000000000,1000000000000),(5,5)],ho:=[(1000000000000,Row.mk 1 false true [AV.ref 5,ai ↑c]),(5,Row.mk 3 true false (af bw fr))]})],T:=5},yH [(1,yV (ao false))]] [.aa [17,5,9,4,3,0,1] [1000000000000,5,3]] [yI (ia fr c x.kind ah),yB ([AV.ref 5,ai ↑c].length= [AV.ref 5,ai ↑c].length∧0< [AV.ref 5,ai ↑c].length) (by simp [n2]),yB (ao (eU c fr.length x.kind != (0:Int))=ao false) (by simp [n2])]<|zF 17<|a8<|zS<|zP 1 [yH [(1,yV (ao (gK x)))]] [.aa [21,17,5,9,4,3,0,1] [1000000000000,5,3]] [yI (i5 x hk hd)]<|bo 21 (!gK x) (by simp_all)<|a8<|zS<|zP 1 [yH [(2,yV (ai (↑x.cC.length:Int)))]] [.aa [25,21,17,5,9,4,3,0,1] [1000000000000,5,3]] [yR (ai (↑x.cC.length:Int))]<|dK 25 ((↑x.cC.length:Int)>1024)<|a8<|zS<|zP 1 [yH ([(7,{b:=false}),(12,{b:=false})]++yg [4,5,6,9,10,11])] [.aa [38,25,21,17,5,9,4,3,0,1] [1000000000000,5,3]] (yM 4 (yB ((x.kind == (5:Int))=false) bR)++yM 4 (yB ((x.kind == (6:Int))=false) bR))<|zF 38<|a8<|zP 1 [{hs:=[(4,{av:=some (ai 6),ln:=[(1000000000000,1000000000000),(5,5)],ho:=[(1000000000000,Row.mk 1 false true [AV.ref 5,ai ↑c]),(5,Row.mk 3 true false (af bw fr))]})],T:=4}] [.aa [4,38,25,21,17,5,9,3,0,1] [1000000000000,5,3]] [yI (ye fr c x n6 hd),yB ([AV.ref 5,ai ↑c].length= [AV.ref 5,ai ↑c].length∧0< [AV.ref 5,ai ↑c].length) (by simp [n2])]<|zR (zG [] [yJ 6 (mH fr c x) (by rw [h2,e6]),yR [AV.ref 5,ai ↑c],yR (af bw fr)])
end Go.Proofs.YtjgbhhnghedgdaaGreatDoor
