import Derived.Test.YtjgbhhnghedgdaaGreatDoorZsV8
import Derived.Test.YtjgbhhnghedgdaaGreatDoorZsCb1
import Derived.Test.YtjgbhhnghedgdaaGreatDoorZsRec5
set_option linter.all false
namespace Go.Proofs.YtjgbhhnghedgdaaGreatDoor
open Go.RowKit
set_option maxRecDepth 100000
set_option maxHeartbeats 4000000
set_option linter.unusedVariables false
def simpleK (k:Int):Prop:=k=1∨k=3∨k=4∨k=5
def accE (x:Itm):Int:=if x.kind=4∧Lib.validD x.dat=false then 6 else 0
theorem accept_retm (fr:List Int) (c:Nat) (x:Itm) (h:accE x=0) (hk:x.kind≠6) (hx:x.kind=5->wv x.num≤512) (hf:fr.length≤1000) (hfr:∀k∈fr,-1000≤k∧k≤1000) (hc:c≤1000000) (hd:x.dat.length≤1000000):RetM Tryz.prog 173 [.addr 1000000000000 0,.agg (itmC x)] (wkH fr c) (ai 0) (wkH (stF fr x) (c+1)):=by
 have hst:=step_retm fr c x hk hx hf hfr hc
 by_cases h4:x.kind=4
 ·have hv:Lib.validD x.dat=true:=by
   cases e:Lib.validD x.dat with
   | true=>rfl
   | false=>unfold accE at h;rw [if_pos ⟨h4,e⟩] at h;omega
  refine RetM.of_fn Tryz.func173 (by kernel_rfl) 52 (by kernel_rfl) (by kernel_rfl) ?_
  refine zQ 1 [{}] [] ?_
  refine zS ?_
  refine zP 1 [yH [(6,yV (ao (Lib.validD x.dat)))]] [.keep [15,4,3,0,1] [3,1000000000000,5]] [yB ((x.kind == (4:Int))=true) (decide_eq_true (by omega)),yB ((x.kind == (4:Int))=true) (decide_eq_true (by omega)),yB ((x.kind == (4:Int))=true) (decide_eq_true (by omega)),yI (valid_ret x.dat (by omega)),yB ((x.kind == (4:Int))=true) (decide_eq_true (by omega)),yB ((x.kind == (4:Int))=true) (decide_eq_true (by omega))] ?_
  refine zFb 15 (!Lib.validD x.dat) (by simp_all) ?_
  refine zK ?_
  refine then_n ?_
  refine zS ?_
  refine zQ 1 [yH [(1,{av:=some (ao false),ln:=[(1000000000000,1000000000000),(5,5)],ho:=[(1000000000000,Row.mk 1 false true [AV.ref 5,ai (↑c:Int)]),(5,Row.mk 3 true false (encA frmC fr))]})]] [yB (RetM Tryz.prog (174:Nat) [AV.addr 1000000000000 0] [(1000000000000,Row.mk 1 false true [AV.ref 5,ai (↑c:Int)]),(5,Row.mk 3 true false (encA frmC fr))] (ao false) [(1000000000000,Row.mk 1 false true [AV.ref 5,ai (↑c:Int)]),(5,Row.mk 3 true false (encA frmC fr))]) (atkey_retm (fr) (c) (by omega)),yB ([AV.ref 5,ai (↑c:Int)].length= [AV.ref 5,ai (↑c:Int)].length∧(0:Nat)< [AV.ref 5,ai (↑c:Int)].length) ⟨rfl,Nat.succ_pos _⟩] ?_
  refine zF 17 ?_
  refine zK ?_
  refine then_n ?_
  refine zP 2 [yH [(2,{av:=some (AV.tup []),ln:=[(1000000000000,1000000000000),(5,5)],ho:=[(1000000000000,Row.mk 1 false true [AV.ref 5,ai (↑(c+(1:Nat)):Int)]),(5,Row.mk 3 true false (encA frmC (stF fr x)))]})],{}] [.keep [4,17,15,3,0,1] [1000000000000,5,3]] [yB (RetM Tryz.prog (176:Nat) [AV.addr 1000000000000 0,AV.agg [ai x.kind,aw x.num,AV.val (Value.string (ByteArray.mk x.dat.toArray))]] [(1000000000000,Row.mk 1 false true [AV.ref 5,ai (↑c:Int)]),(5,Row.mk 3 true false (encA frmC fr))] (AV.tup []) [(1000000000000,Row.mk 1 false true [AV.ref 5,ai (↑(c+(1:Nat)):Int)]),(5,Row.mk 3 true false (encA frmC (stF fr x)))]) (step_retm (fr) (c) (x) (by assumption) (by assumption) (by assumption) (by assumption) (by assumption)),yB ([AV.ref 5,ai (↑c:Int)].length= [AV.ref 5,ai (↑(c+(1:Nat)):Int)].length∧(0:Nat)< [AV.ref 5,ai (↑(c+(1:Nat)):Int)].length) ⟨rfl,Nat.succ_pos _⟩] ?_
  refine zR ?_
  refine DoneM.ret_ [] (s2:=AS.mk [(4,ai 0),(17,ao false),(15,ao (!Lib.validD x.dat)),(3,AV.addr 3 0),(0,AV.addr 1000000000000 0),(1,AV.agg [ai x.kind,aw x.num,AV.val (Value.string (ByteArray.mk x.dat.toArray))])] [(1000000000000,Row.mk 1 false true [AV.ref 5,ai (↑(c+(1:Nat)):Int)]),(5,Row.mk 3 true false (encA frmC (stF fr x))),(3,Row.mk 1 false true (List.map (kill0 (5:Nat)) (List.map (kill0 (5:Nat)) (List.map (kill0 (3:Nat)) (itmC x)))))]) (by kernel_rfl) (C:=[Value.int .i64 0=Value.int .i64 0,[AV.ref 5,ai (↑(c+(1:Nat)):Int)]= [AV.ref 5,ai (↑(c+(1:Nat)):Int)],encA frmC (stF fr x)=encA frmC (stF fr x)]) (by kernel_rfl) ⟨rfl,rfl,rfl,trivial⟩
 ·refine RetM.of_fn Tryz.func173 (by kernel_rfl) 52 (by kernel_rfl) (by kernel_rfl) ?_
  refine zQ 1 [{}] [] ?_
  refine zS ?_
  refine zP 1 [yH [(4,{g:=false}),(5,{g:=false}),(6,{g:=false}),(7,{g:=false}),(8,{b:=false})]] [.keep [15,4,3,0,1] [3,1000000000000,5]] [yB ((x.kind == (4:Int))=false) (decide_eq_false (by omega)),yB ((x.kind == (4:Int))=false) (decide_eq_false (by omega)),yB ((x.kind == (4:Int))=false) (decide_eq_false (by omega)),yB ((x.kind == (4:Int))=false) (decide_eq_false (by omega)),yB ((x.kind == (4:Int))=false) (decide_eq_false (by omega))] ?_
  refine zF 15 ?_
  refine zK ?_
  refine then_n ?_
  refine zS ?_
  refine zQ 1 [yH [(1,{av:=some (ao false),ln:=[(1000000000000,1000000000000),(5,5)],ho:=[(1000000000000,Row.mk 1 false true [AV.ref 5,ai (↑c:Int)]),(5,Row.mk 3 true false (encA frmC fr))]})]] [yB (RetM Tryz.prog (174:Nat) [AV.addr 1000000000000 0] [(1000000000000,Row.mk 1 false true [AV.ref 5,ai (↑c:Int)]),(5,Row.mk 3 true false (encA frmC fr))] (ao false) [(1000000000000,Row.mk 1 false true [AV.ref 5,ai (↑c:Int)]),(5,Row.mk 3 true false (encA frmC fr))]) (atkey_retm (fr) (c) (by omega)),yB ([AV.ref 5,ai (↑c:Int)].length= [AV.ref 5,ai (↑c:Int)].length∧(0:Nat)< [AV.ref 5,ai (↑c:Int)].length) ⟨rfl,Nat.succ_pos _⟩] ?_
  refine zF 17 ?_
  refine zK ?_
  refine then_n ?_
  refine zP 2 [yH [(2,{av:=some (AV.tup []),ln:=[(1000000000000,1000000000000),(5,5)],ho:=[(1000000000000,Row.mk 1 false true [AV.ref 5,ai (↑(c+(1:Nat)):Int)]),(5,Row.mk 3 true false (encA frmC (stF fr x)))]})],{}] [.keep [4,17,15,3,0,1] [1000000000000,5,3]] [yB (RetM Tryz.prog (176:Nat) [AV.addr 1000000000000 0,AV.agg [ai x.kind,aw x.num,AV.val (Value.string (ByteArray.mk x.dat.toArray))]] [(1000000000000,Row.mk 1 false true [AV.ref 5,ai (↑c:Int)]),(5,Row.mk 3 true false (encA frmC fr))] (AV.tup []) [(1000000000000,Row.mk 1 false true [AV.ref 5,ai (↑(c+(1:Nat)):Int)]),(5,Row.mk 3 true false (encA frmC (stF fr x)))]) (step_retm (fr) (c) (x) (by assumption) (by assumption) (by assumption) (by assumption) (by assumption)),yB ([AV.ref 5,ai (↑c:Int)].length= [AV.ref 5,ai (↑(c+(1:Nat)):Int)].length∧(0:Nat)< [AV.ref 5,ai (↑(c+(1:Nat)):Int)].length) ⟨rfl,Nat.succ_pos _⟩] ?_
  refine zR ?_
  refine DoneM.ret_ [] (s2:=AS.mk [(4,ai 0),(17,ao false),(15,ao false),(3,AV.addr 3 0),(0,AV.addr 1000000000000 0),(1,AV.agg [ai x.kind,aw x.num,AV.val (Value.string (ByteArray.mk x.dat.toArray))])] [(1000000000000,Row.mk 1 false true [AV.ref 5,ai (↑(c+(1:Nat)):Int)]),(5,Row.mk 3 true false (encA frmC (stF fr x))),(3,Row.mk 1 false true (List.map (kill0 (5:Nat)) (List.map (kill0 (5:Nat)) (List.map (kill0 (3:Nat)) (itmC x)))))]) (by kernel_rfl) (C:=[Value.int .i64 0=Value.int .i64 0,[AV.ref 5,ai (↑(c+(1:Nat)):Int)]= [AV.ref 5,ai (↑(c+(1:Nat)):Int)],encA frmC (stF fr x)=encA frmC (stF fr x)]) (by kernel_rfl) ⟨rfl,rfl,rfl,trivial⟩
theorem acceptE_retm (fr:List Int) (c:Nat) (x:Itm) (h:accE x≠0) (hd:x.dat.length≤1000000):RetM Tryz.prog 173 [.addr 1000000000000 0,.agg (itmC x)] (wkH fr c) (ai 6) (wkH fr c):=by
 have h2:x.kind=4∧Lib.validD x.dat=false:=by
  apply Classical.byContradiction
  intro q
  exact h (if_neg q)
 obtain ⟨h4,hv⟩:=h2
 refine RetM.of_fn Tryz.func173 (by kernel_rfl) 52 (by kernel_rfl) (by kernel_rfl) ?_
 refine zQ 1 [{}] [] ?_
 refine zS ?_
 refine zP 1 [yH [(6,yV (ao (Lib.validD x.dat)))]] [.keep [15,4,3,0,1] [3,1000000000000,5]] [yB ((x.kind == (4:Int))=true) (decide_eq_true (by omega)),yB ((x.kind == (4:Int))=true) (decide_eq_true (by omega)),yB ((x.kind == (4:Int))=true) (decide_eq_true (by omega)),yI (valid_ret x.dat (by omega)),yB ((x.kind == (4:Int))=true) (decide_eq_true (by omega)),yB ((x.kind == (4:Int))=true) (decide_eq_true (by omega))] ?_
 refine zTb 15 (!Lib.validD x.dat) (by simp_all) ?_
 refine zQ 1 [{}] [] ?_
 refine zR ?_
 refine then_r ?_
 refine DoneM.ret_ [] (s2:=AS.mk [(4,ai 6),(15,ao (!Lib.validD x.dat)),(3,AV.addr 3 0),(0,AV.addr 1000000000000 0),(1,AV.agg [ai x.kind,aw x.num,AV.val (Value.string (ByteArray.mk x.dat.toArray))])] [(3,Row.mk 1 false true (List.map (kill0 (3:Nat)) (itmC x))),(1000000000000,Row.mk 1 false true [AV.ref 5,ai (↑c:Int)]),(5,Row.mk 3 true false (encA frmC fr))]) (by kernel_rfl) (C:=[Value.int .i64 6=Value.int .i64 6,[AV.ref 5,ai (↑c:Int)]= [AV.ref 5,ai (↑c:Int)],encA frmC fr=encA frmC fr]) (by kernel_rfl) ⟨rfl,rfl,rfl,trivial⟩
def shpB (x:Itm):Bool:=if x.kind=3∨x.kind=4 then decide (x.num=0) else x.dat == []
theorem shaped_ret (x:Itm) (hk:simpleK x.kind) (hd:x.dat.length≤1000000):Ret Tryz.prog 172 [.agg (itmC x)] (ao (shpB x)):=by
 rcases hk with h|h|h|h
 ·have e:shpB x=(x.dat == []):=if_neg (by omega)
  refine zO Tryz.func172 34 ?_
  refine zQ 1 [{}] [] ?_
  refine zS ?_
  refine zQ 1 [{}] [] ?_
  refine zB 0 ?_
  refine zS ?_
  refine zP 1 [{}] [.keep [5,4,2,1,0] [1]] [] ?_
  refine zFb 5 (x.kind == (3:Int)) (decide_eq_false (by omega)) ?_
  refine zX {} [] ?_
  refine then_n ?_
  refine zFb 5 (x.kind == (4:Int)) (decide_eq_false (by omega)) ?_
  refine zP 1 [{}] [.keep [11,5,4,2,1,0] [1]] [] ?_
  refine zFb 11 (x.kind == (8:Int)) (decide_eq_false (by omega)) ?_
  refine zQ 1 [{}] [] ?_
  refine zFb 21 (x.kind == (7:Int)) (decide_eq_false (by omega)) ?_
  refine zK ?_
  refine inb_n ?_
  refine then_n ?_
  refine zP 1 [yH [(2,yV (ao (x.dat == [])))]] [.keep [2,21,11,5,4,1,0] [1]] [yB (ao ((ByteArray.mk x.dat.toArray).toList == (ByteArray.mk #[]).toList)=ao (x.dat == [])) (str_eq (x.dat) ([]))] ?_
  refine zR ?_
  refine zV [yB (Value.bool (x.dat == [])=Value.bool (shpB x)) (by rw [e])]
 ·have e:shpB x=decide (x.num=0):=if_pos (by omega)
  refine zO Tryz.func172 34 ?_
  refine zQ 1 [{}] [] ?_
  refine zS ?_
  refine zQ 1 [{}] [] ?_
  refine zB 0 ?_
  refine zS ?_
  refine zP 1 [{}] [.keep [5,4,2,1,0] [1]] [] ?_
  refine zTb 5 (x.kind == (3:Int)) (decide_eq_true (by omega)) ?_
  refine zK ?_
  refine then_n ?_
  refine zTb 5 (x.kind == (3:Int)) (decide_eq_true (by omega)) ?_
  refine zP 1 [yH [(2,yV (ao (x.num == 0)))]] [.keep [2,5,4,1,0] [1]] [yI (avw_eq x.num 0)] ?_
  refine zR ?_
  refine inb_r ?_
  refine then_r ?_
  refine zV [yB (Value.bool (x.num == 0)=Value.bool (shpB x)) (by rw [e];rfl)]
 ·have e:shpB x=decide (x.num=0):=if_pos (by omega)
  refine zO Tryz.func172 34 ?_
  refine AWP.regsK 1 [{}] (by kernel_rfl) (s':=AS.mk [(2,ao false),(1,AV.addr 1 0),(0,AV.agg [ai x.kind,aw x.num,AV.val (Value.string (ByteArray.mk x.dat.toArray))])] [(1,Row.mk 1 false true (List.map (kill0 (1:Nat)) (itmC x)))]) (C:=[]) (by kernel_rfl) trivial ?_
  refine zS ?_
  refine zQ 1 [{}] [] ?_
  refine zB 0 ?_
  refine zS ?_
  refine zP 1 [{}] [.keep [5,4,2,1,0] [1]] [] ?_
  refine zFb 5 (x.kind == (3:Int)) (decide_eq_false (by omega)) ?_
  refine zX {} [] ?_
  refine then_n ?_
  refine zTb 5 (x.kind == (4:Int)) (decide_eq_true (by omega)) ?_
  refine zP 1 [yH [(2,yV (ao (x.num == 0)))]] [.keep [2,5,4,1,0] [1]] [yI (avw_eq x.num 0)] ?_
  refine zR ?_
  refine inb_r ?_
  refine then_r ?_
  refine zV [yB (Value.bool (x.num == 0)=Value.bool (shpB x)) (by rw [e];rfl)]
 ·have e:shpB x=(x.dat == []):=if_neg (by omega)
  refine zO Tryz.func172 34 ?_
  refine zQ 1 [{}] [] ?_
  refine zS ?_
  refine zQ 1 [{}] [] ?_
  refine zB 0 ?_
  refine zS ?_
  refine zP 1 [{}] [.keep [5,4,2,1,0] [1]] [] ?_
  refine zFb 5 (x.kind == (3:Int)) (decide_eq_false (by omega)) ?_
  refine zX {} [] ?_
  refine then_n ?_
  refine zFb 5 (x.kind == (4:Int)) (decide_eq_false (by omega)) ?_
  refine zP 1 [{}] [.keep [11,5,4,2,1,0] [1]] [] ?_
  refine zFb 11 (x.kind == (8:Int)) (decide_eq_false (by omega)) ?_
  refine zQ 1 [{}] [] ?_
  refine zFb 21 (x.kind == (7:Int)) (decide_eq_false (by omega)) ?_
  refine zK ?_
  refine inb_n ?_
  refine then_n ?_
  refine zP 1 [yH [(2,yV (ao (x.dat == [])))]] [.keep [2,21,11,5,4,1,0] [1]] [yB (ao ((ByteArray.mk x.dat.toArray).toList == (ByteArray.mk #[]).toList)=ao (x.dat == [])) (str_eq (x.dat) ([]))] ?_
  refine zR ?_
  refine zV [yB (Value.bool (x.dat == [])=Value.bool (shpB x)) (by rw [e])]
def itE (fr:List Int) (c:Nat) (x:Itm):Int:=if 0<c∧fr.length=0 then 2 else if admE c fr.length x.kind≠0 then admE c fr.length x.kind else if shpB x=false then 4 else if 1024<x.dat.length then 8 else if x.kind=5∧512<wv x.num then 8 else accE x
theorem item_retm (fr:List Int) (c:Nat) (x:Itm) (h:itE fr c x=0) (hk:simpleK x.kind) (hf:fr.length≤1000) (hfr:∀k∈fr,-1000≤k∧k≤1000) (hc:c≤1000000) (hd:x.dat.length≤1000000):RetM Tryz.prog 162 [.addr 1000000000000 0,.agg (itmC x)] (wkH fr c) (ai 0) (wkH (stF fr x) (c+1)):=by
 have n1:¬(0<c∧fr.length=0):=fun q=>by unfold itE at h;rw [if_pos q] at h;omega
 have h2:itE fr c x=if admE c fr.length x.kind≠0 then admE c fr.length x.kind else if shpB x=false then 4 else if 1024<x.dat.length then 8 else if x.kind=5∧512<wv x.num then 8 else accE x:=if_neg n1
 have n2:admE c fr.length x.kind=0:=Classical.byContradiction fun q=>q (by rw [h2,if_pos q] at h;exact h)
 rw [if_neg (by omega)] at h2
 have n3:shpB x=true:=by
  cases e:shpB x with
  | true=>rfl
  | false=>rw [h2,if_pos e] at h;omega
 rw [if_neg (by rw [n3];decide)] at h2
 have n4:¬1024<x.dat.length:=fun q=>by rw [h2,if_pos q] at h;omega
 rw [if_neg n4] at h2
 have n5:¬(x.kind=5∧512<wv x.num):=fun q=>by rw [h2,if_pos q] at h;omega
 rw [if_neg n5] at h2
 have n6:accE x=0:=by omega
 have hst:=accept_retm fr c x n6 (by rcases hk with q|q|q|q<;>omega) (fun q=>by omega) hf hfr hc hd
 have hn1:decide (0<c∧fr.length=0)=false:=decide_eq_false n1
 by_cases h5:x.kind=5
 ·refine RetM.of_fn Tryz.func162 (by kernel_rfl) 44 (by kernel_rfl) (by kernel_rfl) ?_
  refine zQ 1 [{}] [] ?_
  refine zS ?_
  refine zP 1 [yH [(3,{av:=some (ao (decide ((0:Nat)<c∧fr.length=(0:Nat)))),ln:=[(1000000000000,1000000000000),(5,5)],ho:=[(1000000000000,Row.mk 1 false true [AV.ref 5,ai (↑c:Int)]),(5,Row.mk 3 true false (encA frmC fr))]})]] [.keep [9,4,3,0,1] [1000000000000,5,3]] [yB (RetM Tryz.prog (163:Nat) [AV.addr 1000000000000 0] [(1000000000000,Row.mk 1 false true [AV.ref 5,ai (↑c:Int)]),(5,Row.mk 3 true false (encA frmC fr))] (ao (decide ((0:Nat)<c∧fr.length=(0:Nat)))) [(1000000000000,Row.mk 1 false true [AV.ref 5,ai (↑c:Int)]),(5,Row.mk 3 true false (encA frmC fr))]) (done_retm (fr) (c) (by omega)),yB ([AV.ref 5,ai (↑c:Int)].length= [AV.ref 5,ai (↑c:Int)].length∧(0:Nat)< [AV.ref 5,ai (↑c:Int)].length) (by simp [n2])] ?_
  refine zFb 9 (decide ((0:Nat)<c∧fr.length=(0:Nat))) (by assumption) ?_
  refine zK ?_
  refine then_n ?_
  refine zS ?_
  refine zP 2 [{hs:=[(5,{av:=some (ai (admE c fr.length x.kind)),ln:=[(1000000000000,1000000000000),(5,5)],ho:=[(1000000000000,Row.mk 1 false true [AV.ref 5,ai (↑c:Int)]),(5,Row.mk 3 true false (encA frmC fr))]})],T:=5},yH [(1,yV (ao false))]] [.keep [17,5,9,4,3,0,1] [1000000000000,5,3]] [yB (RetM Tryz.prog (171:Nat) [AV.addr 1000000000000 0,ai x.kind] [(1000000000000,Row.mk 1 false true [AV.ref 5,ai (↑c:Int)]),(5,Row.mk 3 true false (encA frmC fr))] (ai (admE c fr.length x.kind)) [(1000000000000,Row.mk 1 false true [AV.ref 5,ai (↑c:Int)]),(5,Row.mk 3 true false (encA frmC fr))]) (admit_retm (fr) (c) (x.kind) (by omega)),yB ([AV.ref 5,ai (↑c:Int)].length= [AV.ref 5,ai (↑c:Int)].length∧(0:Nat)< [AV.ref 5,ai (↑c:Int)].length) (by simp [n2]),yB (ao (admE c fr.length x.kind != (0:Int))=ao false) (by simp [n2])] ?_
  refine zF 17 ?_
  refine zK ?_
  refine then_n ?_
  refine zS ?_
  refine zP 1 [yH [(1,yV (ao (shpB x)))]] [.keep [21,17,5,9,4,3,0,1] [1000000000000,5,3]] [yI (shaped_ret x (by assumption) (by assumption))] ?_
  refine zFb 21 (!shpB x) (by simp_all) ?_
  refine zK ?_
  refine then_n ?_
  refine zS ?_
  refine zP 1 [yH [(2,yV (ai (↑x.dat.length:Int)))]] [.keep [25,21,17,5,9,4,3,0,1] [1000000000000,5,3]] [yR (ai (↑x.dat.length:Int))] ?_
  refine zFd 25 ((↑x.dat.length:Int)>1024) ?_
  refine zK ?_
  refine then_n ?_
  refine zS ?_
  refine zP 1 [{}] [.keep [38,25,21,17,5,9,4,3,0,1] [1000000000000,5,3]] [yB ((x.kind == (5:Int))=true) (decide_eq_true (by omega)),yB ((x.kind == (5:Int))=true) (decide_eq_true (by omega)),yB ((x.kind == (5:Int))=true) (decide_eq_true (by omega)),yB ((x.kind == (5:Int))=true) (decide_eq_true (by omega)),yR true,yR true,yR true,yR true] ?_
  refine zFd 38 (wv x.num>512) ?_
  refine zK ?_
  refine then_n ?_
  refine zP 1 [{hs:=[(4,{av:=some (ai 0),ln:=[(1000000000000,1000000000000),(5,5)],ho:=[(1000000000000,Row.mk 1 false true [AV.ref 5,ai (↑(c+(1:Nat)):Int)]),(5,Row.mk 3 true false (encA frmC (stF fr x)))]})],T:=4}] [.keep [4,38,25,21,17,5,9,3,0,1] [1000000000000,5,3]] [yB (RetM Tryz.prog (173:Nat) [AV.addr 1000000000000 0,AV.agg [ai x.kind,aw x.num,AV.val (Value.string (ByteArray.mk x.dat.toArray))]] [(1000000000000,Row.mk 1 false true [AV.ref 5,ai (↑c:Int)]),(5,Row.mk 3 true false (encA frmC fr))] (ai 0) [(1000000000000,Row.mk 1 false true [AV.ref 5,ai (↑(c+(1:Nat)):Int)]),(5,Row.mk 3 true false (encA frmC (stF fr x)))]) (accept_retm (fr) (c) (x) (by assumption) (by omega) (by omega) (by assumption) (by assumption) (by assumption) (by assumption)),yB ([AV.ref 5,ai (↑c:Int)].length= [AV.ref 5,ai (↑(c+(1:Nat)):Int)].length∧(0:Nat)< [AV.ref 5,ai (↑(c+(1:Nat)):Int)].length) (by simp [n2])] ?_
  refine zR ?_
  refine DoneM.ret_ [] (s2:=AS.mk [(4,ai 0),(38,ao (decide (wv x.num>512))),(25,ao (decide ((↑x.dat.length:Int)>1024))),(21,ao (!shpB x)),(17,ao false),(5,ai (admE c fr.length x.kind)),(9,ao (decide ((0:Nat)<c∧fr.length=(0:Nat)))),(3,AV.addr 3 0),(0,AV.addr 1000000000000 0),(1,AV.agg [ai x.kind,aw x.num,AV.val (Value.string (ByteArray.mk x.dat.toArray))])] [(1000000000000,Row.mk 1 false true [AV.ref 5,ai (↑(c+(1:Nat)):Int)]),(5,Row.mk 3 true false (encA frmC (stF fr x))),(3,Row.mk 1 false true (List.map (kill0 (5:Nat)) (List.map (kill0 (5:Nat)) (List.map (kill0 (5:Nat)) (List.map (kill0 (3:Nat)) (itmC x))))))]) (by kernel_rfl) (C:=[Value.int .i64 0=Value.int .i64 0,[AV.ref 5,ai (↑(c+(1:Nat)):Int)]= [AV.ref 5,ai (↑(c+(1:Nat)):Int)],encA frmC (stF fr x)=encA frmC (stF fr x)]) (by kernel_rfl) ⟨rfl,rfl,rfl,trivial⟩
 ·have hk6:x.kind≠6:=by rcases hk with q|q|q|q<;>omega
  refine RetM.of_fn Tryz.func162 (by kernel_rfl) 44 (by kernel_rfl) (by kernel_rfl) ?_
  refine zQ 1 [{}] [] ?_
  refine zS ?_
  refine zP 1 [yH [(3,{av:=some (ao (decide ((0:Nat)<c∧fr.length=(0:Nat)))),ln:=[(1000000000000,1000000000000),(5,5)],ho:=[(1000000000000,Row.mk 1 false true [AV.ref 5,ai (↑c:Int)]),(5,Row.mk 3 true false (encA frmC fr))]})]] [.keep [9,4,3,0,1] [1000000000000,5,3]] [yB (RetM Tryz.prog (163:Nat) [AV.addr 1000000000000 0] [(1000000000000,Row.mk 1 false true [AV.ref 5,ai (↑c:Int)]),(5,Row.mk 3 true false (encA frmC fr))] (ao (decide ((0:Nat)<c∧fr.length=(0:Nat)))) [(1000000000000,Row.mk 1 false true [AV.ref 5,ai (↑c:Int)]),(5,Row.mk 3 true false (encA frmC fr))]) (done_retm (fr) (c) (by omega)),yB ([AV.ref 5,ai (↑c:Int)].length= [AV.ref 5,ai (↑c:Int)].length∧(0:Nat)< [AV.ref 5,ai (↑c:Int)].length) (by simp [n2])] ?_
  refine zFb 9 (decide ((0:Nat)<c∧fr.length=(0:Nat))) (by assumption) ?_
  refine zK ?_
  refine then_n ?_
  refine zS ?_
  refine zP 2 [{hs:=[(5,{av:=some (ai (admE c fr.length x.kind)),ln:=[(1000000000000,1000000000000),(5,5)],ho:=[(1000000000000,Row.mk 1 false true [AV.ref 5,ai (↑c:Int)]),(5,Row.mk 3 true false (encA frmC fr))]})],T:=5},yH [(1,yV (ao false))]] [.keep [17,5,9,4,3,0,1] [1000000000000,5,3]] [yB (RetM Tryz.prog (171:Nat) [AV.addr 1000000000000 0,ai x.kind] [(1000000000000,Row.mk 1 false true [AV.ref 5,ai (↑c:Int)]),(5,Row.mk 3 true false (encA frmC fr))] (ai (admE c fr.length x.kind)) [(1000000000000,Row.mk 1 false true [AV.ref 5,ai (↑c:Int)]),(5,Row.mk 3 true false (encA frmC fr))]) (admit_retm (fr) (c) (x.kind) (by omega)),yB ([AV.ref 5,ai (↑c:Int)].length= [AV.ref 5,ai (↑c:Int)].length∧(0:Nat)< [AV.ref 5,ai (↑c:Int)].length) (by simp [n2]),yB (ao (admE c fr.length x.kind != (0:Int))=ao false) (by simp [n2])] ?_
  refine zF 17 ?_
  refine zK ?_
  refine then_n ?_
  refine zS ?_
  refine zP 1 [yH [(1,yV (ao (shpB x)))]] [.keep [21,17,5,9,4,3,0,1] [1000000000000,5,3]] [yI (shaped_ret x (by assumption) (by assumption))] ?_
  refine zFb 21 (!shpB x) (by simp_all) ?_
  refine zK ?_
  refine then_n ?_
  refine zS ?_
  refine AWP.regsP 1 [{hs:=[(2,{av:=some (ai (↑x.dat.length:Int))})]}] [.keep [25,21,17,5,9,4,3,0,1] [1000000000000,5,3]] (by kernel_rfl) (s':=AS.mk [(25,ao (decide ((↑x.dat.length:Int)>1024))),(21,ao (!shpB x)),(17,ao false),(5,ai (admE c fr.length x.kind)),(9,ao (decide ((0:Nat)<c∧fr.length=(0:Nat)))),(4,ai 0),(3,AV.addr 3 0),(0,AV.addr 1000000000000 0),(1,AV.agg [ai x.kind,aw x.num,AV.val (Value.string (ByteArray.mk x.dat.toArray))])] [(1000000000000,Row.mk 1 false true [AV.ref 5,ai (↑c:Int)]),(5,Row.mk 3 true false (encA frmC fr)),(3,Row.mk 1 false true (List.map (kill0 (5:Nat)) (List.map (kill0 (5:Nat)) (List.map (kill0 (3:Nat)) (itmC x)))))]) (C:=[ai (↑(ByteArray.mk x.dat.toArray).size:Int)=ai (↑x.dat.length:Int)]) (by kernel_rfl) ⟨rfl,trivial⟩ ?_
  refine zFd 25 ((↑x.dat.length:Int)>1024) ?_
  refine zK ?_
  refine then_n ?_
  refine zS ?_
  refine zP 1 [yH [(4,{g:=false}),(5,{g:=false}),(6,{g:=false}),(7,{b:=false}),(9,{g:=false}),(10,{g:=false}),(11,{g:=false}),(12,{b:=false})]] [.keep [38,25,21,17,5,9,4,3,0,1] [1000000000000,5,3]] [yB ((x.kind == (5:Int))=false) (decide_eq_false (by omega)),yB ((x.kind == (5:Int))=false) (decide_eq_false (by omega)),yB ((x.kind == (5:Int))=false) (decide_eq_false (by omega)),yB ((x.kind == (5:Int))=false) (decide_eq_false (by omega)),yB ((x.kind == (6:Int))=false) (decide_eq_false (by omega)),yB ((x.kind == (6:Int))=false) (decide_eq_false (by omega)),yB ((x.kind == (6:Int))=false) (decide_eq_false (by omega)),yB ((x.kind == (6:Int))=false) (decide_eq_false (by omega))] ?_
  refine zF 38 ?_
  refine zK ?_
  refine then_n ?_
  refine zP 1 [{hs:=[(4,{av:=some (ai 0),ln:=[(1000000000000,1000000000000),(5,5)],ho:=[(1000000000000,Row.mk 1 false true [AV.ref 5,ai (↑(c+(1:Nat)):Int)]),(5,Row.mk 3 true false (encA frmC (stF fr x)))]})],T:=4}] [.keep [4,38,25,21,17,5,9,3,0,1] [1000000000000,5,3]] [yB (RetM Tryz.prog (173:Nat) [AV.addr 1000000000000 0,AV.agg [ai x.kind,aw x.num,AV.val (Value.string (ByteArray.mk x.dat.toArray))]] [(1000000000000,Row.mk 1 false true [AV.ref 5,ai (↑c:Int)]),(5,Row.mk 3 true false (encA frmC fr))] (ai 0) [(1000000000000,Row.mk 1 false true [AV.ref 5,ai (↑(c+(1:Nat)):Int)]),(5,Row.mk 3 true false (encA frmC (stF fr x)))]) (accept_retm (fr) (c) (x) (by assumption) (by assumption) (by omega) (by assumption) (by assumption) (by assumption) (by assumption)),yB ([AV.ref 5,ai (↑c:Int)].length= [AV.ref 5,ai (↑(c+(1:Nat)):Int)].length∧(0:Nat)< [AV.ref 5,ai (↑(c+(1:Nat)):Int)].length) (by simp [n2])] ?_
  refine zR ?_
  refine DoneM.ret_ [] (s2:=AS.mk [(4,ai 0),(38,ao false),(25,ao (decide ((↑x.dat.length:Int)>1024))),(21,ao (!shpB x)),(17,ao false),(5,ai (admE c fr.length x.kind)),(9,ao (decide ((0:Nat)<c∧fr.length=(0:Nat)))),(3,AV.addr 3 0),(0,AV.addr 1000000000000 0),(1,AV.agg [ai x.kind,aw x.num,AV.val (Value.string (ByteArray.mk x.dat.toArray))])] [(1000000000000,Row.mk 1 false true [AV.ref 5,ai (↑(c+(1:Nat)):Int)]),(5,Row.mk 3 true false (encA frmC (stF fr x))),(3,Row.mk 1 false true (List.map (kill0 (5:Nat)) (List.map (kill0 (5:Nat)) (List.map (kill0 (5:Nat)) (List.map (kill0 (3:Nat)) (itmC x))))))]) (by kernel_rfl) (C:=[Value.int .i64 0=Value.int .i64 0,[AV.ref 5,ai (↑(c+(1:Nat)):Int)]= [AV.ref 5,ai (↑(c+(1:Nat)):Int)],encA frmC (stF fr x)=encA frmC (stF fr x)]) (by kernel_rfl) ⟨rfl,rfl,rfl,trivial⟩
theorem itemE_retm (fr:List Int) (c:Nat) (x:Itm) (h:itE fr c x≠0) (hk:simpleK x.kind) (hf:fr.length≤1000) (hc:c≤1000000) (hd:x.dat.length≤1000000):RetM Tryz.prog 162 [.addr 1000000000000 0,.agg (itmC x)] (wkH fr c) (ai (itE fr c x)) (wkH fr c):=by
 have _:=hc
 by_cases n1:0<c∧fr.length=0
 ·have e:itE fr c x=2:=if_pos n1
  have hn1:decide (0<c∧fr.length=0)=true:=decide_eq_true n1
  refine RetM.of_fn Tryz.func162 (by kernel_rfl) 44 (by kernel_rfl) (by kernel_rfl) ?_
  refine zQ 1 [{}] [] ?_
  refine zS ?_
  refine zP 1 [yH [(3,{av:=some (ao (decide ((0:Nat)<c∧fr.length=(0:Nat)))),ln:=[(1000000000000,1000000000000),(5,5)],ho:=[(1000000000000,Row.mk 1 false true [AV.ref 5,ai (↑c:Int)]),(5,Row.mk 3 true false (encA frmC fr))]})]] [.keep [9,4,3,0,1] [1000000000000,5,3]] [yB (RetM Tryz.prog (163:Nat) [AV.addr 1000000000000 0] [(1000000000000,Row.mk 1 false true [AV.ref 5,ai (↑c:Int)]),(5,Row.mk 3 true false (encA frmC fr))] (ao (decide ((0:Nat)<c∧fr.length=(0:Nat)))) [(1000000000000,Row.mk 1 false true [AV.ref 5,ai (↑c:Int)]),(5,Row.mk 3 true false (encA frmC fr))]) (done_retm (fr) (c) (by omega)),yB ([AV.ref 5,ai (↑c:Int)].length= [AV.ref 5,ai (↑c:Int)].length∧(0:Nat)< [AV.ref 5,ai (↑c:Int)].length) ⟨rfl,Nat.succ_pos _⟩] ?_
  refine zTb 9 (decide ((0:Nat)<c∧fr.length=(0:Nat))) (by assumption) ?_
  refine zQ 1 [{}] [] ?_
  refine zR ?_
  refine then_r ?_
  refine DoneM.ret_ [] (s2:=AS.mk [(4,ai 2),(9,ao (decide ((0:Nat)<c∧fr.length=(0:Nat)))),(3,AV.addr 3 0),(0,AV.addr 1000000000000 0),(1,AV.agg [ai x.kind,aw x.num,AV.val (Value.string (ByteArray.mk x.dat.toArray))])] [(1000000000000,Row.mk 1 false true [AV.ref 5,ai (↑c:Int)]),(5,Row.mk 3 true false (encA frmC fr)),(3,Row.mk 1 false true (List.map (kill0 (5:Nat)) (List.map (kill0 (3:Nat)) (itmC x))))]) (by kernel_rfl) (C:=[Value.int .i64 2=Value.int .i64 (itE fr c x),[AV.ref 5,ai (↑c:Int)]= [AV.ref 5,ai (↑c:Int)],encA frmC fr=encA frmC fr]) (by kernel_rfl) ⟨(by rw [e]),rfl,rfl,trivial⟩
 have hn1:decide (0<c∧fr.length=0)=false:=decide_eq_false n1
 have h2:itE fr c x=if admE c fr.length x.kind≠0 then admE c fr.length x.kind else if shpB x=false then 4 else if 1024<x.dat.length then 8 else if x.kind=5∧512<wv x.num then 8 else accE x:=if_neg n1
 by_cases n2:admE c fr.length x.kind=0
 case neg =>
  rw [if_pos n2] at h2
  refine RetM.of_fn Tryz.func162 (by kernel_rfl) 44 (by kernel_rfl) (by kernel_rfl) ?_
  refine zQ 1 [{}] [] ?_
  refine zS ?_
  refine zP 1 [yH [(3,{av:=some (ao (decide ((0:Nat)<c∧fr.length=(0:Nat)))),ln:=[(1000000000000,1000000000000),(5,5)],ho:=[(1000000000000,Row.mk 1 false true [AV.ref 5,ai (↑c:Int)]),(5,Row.mk 3 true false (encA frmC fr))]})]] [.keep [9,4,3,0,1] [1000000000000,5,3]] [yB (RetM Tryz.prog (163:Nat) [AV.addr 1000000000000 0] [(1000000000000,Row.mk 1 false true [AV.ref 5,ai (↑c:Int)]),(5,Row.mk 3 true false (encA frmC fr))] (ao (decide ((0:Nat)<c∧fr.length=(0:Nat)))) [(1000000000000,Row.mk 1 false true [AV.ref 5,ai (↑c:Int)]),(5,Row.mk 3 true false (encA frmC fr))]) (done_retm (fr) (c) (by omega)),yB ([AV.ref 5,ai (↑c:Int)].length= [AV.ref 5,ai (↑c:Int)].length∧(0:Nat)< [AV.ref 5,ai (↑c:Int)].length) (by simp [n2])] ?_
  refine zFb 9 (decide ((0:Nat)<c∧fr.length=(0:Nat))) (by assumption) ?_
  refine zK ?_
  refine then_n ?_
  refine zS ?_
  refine zP 2 [{hs:=[(5,{av:=some (ai (admE c fr.length x.kind)),ln:=[(1000000000000,1000000000000),(5,5)],ho:=[(1000000000000,Row.mk 1 false true [AV.ref 5,ai (↑c:Int)]),(5,Row.mk 3 true false (encA frmC fr))]})],T:=5},yH [(1,yV (ao true))]] [.keep [17,5,9,4,3,0,1] [1000000000000,5,3]] [yB (RetM Tryz.prog (171:Nat) [AV.addr 1000000000000 0,ai x.kind] [(1000000000000,Row.mk 1 false true [AV.ref 5,ai (↑c:Int)]),(5,Row.mk 3 true false (encA frmC fr))] (ai (admE c fr.length x.kind)) [(1000000000000,Row.mk 1 false true [AV.ref 5,ai (↑c:Int)]),(5,Row.mk 3 true false (encA frmC fr))]) (admit_retm (fr) (c) (x.kind) (by omega)),yB ([AV.ref 5,ai (↑c:Int)].length= [AV.ref 5,ai (↑c:Int)].length∧(0:Nat)< [AV.ref 5,ai (↑c:Int)].length) (by simp [n2]),yB (ao (admE c fr.length x.kind != (0:Int))=ao true) (by simp [n2])] ?_
  refine zT 17 ?_
  refine zQ 1 [{}] [] ?_
  refine zR ?_
  refine then_r ?_
  refine DoneM.ret_ [] (s2:=AS.mk [(4,ai (admE c fr.length x.kind)),(18,ai (admE c fr.length x.kind)),(17,ao true),(5,ai (admE c fr.length x.kind)),(9,ao (decide ((0:Nat)<c∧fr.length=(0:Nat)))),(3,AV.addr 3 0),(0,AV.addr 1000000000000 0),(1,AV.agg [ai x.kind,aw x.num,AV.val (Value.string (ByteArray.mk x.dat.toArray))])] [(1000000000000,Row.mk 1 false true [AV.ref 5,ai (↑c:Int)]),(5,Row.mk 3 true false (encA frmC fr)),(3,Row.mk 1 false true (List.map (kill0 (5:Nat)) (List.map (kill0 (5:Nat)) (List.map (kill0 (3:Nat)) (itmC x)))))]) (by kernel_rfl) (C:=[Value.int .i64 (admE c fr.length x.kind)=Value.int .i64 (itE fr c x),[AV.ref 5,ai (↑c:Int)]= [AV.ref 5,ai (↑c:Int)],encA frmC fr=encA frmC fr]) (by kernel_rfl) ⟨(by rw [h2]),rfl,rfl,trivial⟩
 rw [if_neg (by omega)] at h2
 cases n3:shpB x with
 | false =>
  rw [if_pos n3] at h2
  refine RetM.of_fn Tryz.func162 (by kernel_rfl) 44 (by kernel_rfl) (by kernel_rfl) ?_
  refine zQ 1 [{}] [] ?_
  refine zS ?_
  refine zP 1 [yH [(3,{av:=some (ao (decide ((0:Nat)<c∧fr.length=(0:Nat)))),ln:=[(1000000000000,1000000000000),(5,5)],ho:=[(1000000000000,Row.mk 1 false true [AV.ref 5,ai (↑c:Int)]),(5,Row.mk 3 true false (encA frmC fr))]})]] [.keep [9,4,3,0,1] [1000000000000,5,3]] [yB (RetM Tryz.prog (163:Nat) [AV.addr 1000000000000 0] [(1000000000000,Row.mk 1 false true [AV.ref 5,ai (↑c:Int)]),(5,Row.mk 3 true false (encA frmC fr))] (ao (decide ((0:Nat)<c∧fr.length=(0:Nat)))) [(1000000000000,Row.mk 1 false true [AV.ref 5,ai (↑c:Int)]),(5,Row.mk 3 true false (encA frmC fr))]) (done_retm (fr) (c) (by omega)),yB ([AV.ref 5,ai (↑c:Int)].length= [AV.ref 5,ai (↑c:Int)].length∧(0:Nat)< [AV.ref 5,ai (↑c:Int)].length) (by simp [n2])] ?_
  refine zFb 9 (decide ((0:Nat)<c∧fr.length=(0:Nat))) (by assumption) ?_
  refine zK ?_
  refine then_n ?_
  refine zS ?_
  refine zP 2 [{hs:=[(5,{av:=some (ai (admE c fr.length x.kind)),ln:=[(1000000000000,1000000000000),(5,5)],ho:=[(1000000000000,Row.mk 1 false true [AV.ref 5,ai (↑c:Int)]),(5,Row.mk 3 true false (encA frmC fr))]})],T:=5},yH [(1,yV (ao false))]] [.keep [17,5,9,4,3,0,1] [1000000000000,5,3]] [yB (RetM Tryz.prog (171:Nat) [AV.addr 1000000000000 0,ai x.kind] [(1000000000000,Row.mk 1 false true [AV.ref 5,ai (↑c:Int)]),(5,Row.mk 3 true false (encA frmC fr))] (ai (admE c fr.length x.kind)) [(1000000000000,Row.mk 1 false true [AV.ref 5,ai (↑c:Int)]),(5,Row.mk 3 true false (encA frmC fr))]) (admit_retm (fr) (c) (x.kind) (by omega)),yB ([AV.ref 5,ai (↑c:Int)].length= [AV.ref 5,ai (↑c:Int)].length∧(0:Nat)< [AV.ref 5,ai (↑c:Int)].length) (by simp [n2]),yB (ao (admE c fr.length x.kind != (0:Int))=ao false) (by simp [n2])] ?_
  refine zF 17 ?_
  refine zK ?_
  refine then_n ?_
  refine zS ?_
  refine zP 1 [yH [(1,yV (ao (shpB x)))]] [.keep [21,17,5,9,4,3,0,1] [1000000000000,5,3]] [yI (shaped_ret x (by assumption) (by assumption))] ?_
  refine zTb 21 (!shpB x) (by simp_all) ?_
  refine zQ 1 [{}] [] ?_
  refine zR ?_
  refine then_r ?_
  refine DoneM.ret_ [] (s2:=AS.mk [(4,ai 4),(21,ao (!shpB x)),(17,ao false),(5,ai (admE c fr.length x.kind)),(9,ao (decide ((0:Nat)<c∧fr.length=(0:Nat)))),(3,AV.addr 3 0),(0,AV.addr 1000000000000 0),(1,AV.agg [ai x.kind,aw x.num,AV.val (Value.string (ByteArray.mk x.dat.toArray))])] [(1000000000000,Row.mk 1 false true [AV.ref 5,ai (↑c:Int)]),(5,Row.mk 3 true false (encA frmC fr)),(3,Row.mk 1 false true (List.map (kill0 (5:Nat)) (List.map (kill0 (5:Nat)) (List.map (kill0 (3:Nat)) (itmC x)))))]) (by kernel_rfl) (C:=[Value.int .i64 4=Value.int .i64 (itE fr c x),[AV.ref 5,ai (↑c:Int)]= [AV.ref 5,ai (↑c:Int)],encA frmC fr=encA frmC fr]) (by kernel_rfl) ⟨(by rw [h2]),rfl,rfl,trivial⟩
 | true =>
 rw [if_neg (by rw [n3];decide)] at h2
 by_cases n4:1024<x.dat.length
 ·rw [if_pos n4] at h2
  refine RetM.of_fn Tryz.func162 (by kernel_rfl) 44 (by kernel_rfl) (by kernel_rfl) ?_
  refine zQ 1 [{}] [] ?_
  refine zS ?_
  refine zP 1 [yH [(3,{av:=some (ao (decide ((0:Nat)<c∧fr.length=(0:Nat)))),ln:=[(1000000000000,1000000000000),(5,5)],ho:=[(1000000000000,Row.mk 1 false true [AV.ref 5,ai (↑c:Int)]),(5,Row.mk 3 true false (encA frmC fr))]})]] [.keep [9,4,3,0,1] [1000000000000,5,3]] [yB (RetM Tryz.prog (163:Nat) [AV.addr 1000000000000 0] [(1000000000000,Row.mk 1 false true [AV.ref 5,ai (↑c:Int)]),(5,Row.mk 3 true false (encA frmC fr))] (ao (decide ((0:Nat)<c∧fr.length=(0:Nat)))) [(1000000000000,Row.mk 1 false true [AV.ref 5,ai (↑c:Int)]),(5,Row.mk 3 true false (encA frmC fr))]) (done_retm (fr) (c) (by omega)),yB ([AV.ref 5,ai (↑c:Int)].length= [AV.ref 5,ai (↑c:Int)].length∧(0:Nat)< [AV.ref 5,ai (↑c:Int)].length) (by simp [n2])] ?_
  refine zFb 9 (decide ((0:Nat)<c∧fr.length=(0:Nat))) (by assumption) ?_
  refine zK ?_
  refine then_n ?_
  refine zS ?_
  refine zP 2 [{hs:=[(5,{av:=some (ai (admE c fr.length x.kind)),ln:=[(1000000000000,1000000000000),(5,5)],ho:=[(1000000000000,Row.mk 1 false true [AV.ref 5,ai (↑c:Int)]),(5,Row.mk 3 true false (encA frmC fr))]})],T:=5},yH [(1,yV (ao false))]] [.keep [17,5,9,4,3,0,1] [1000000000000,5,3]] [yB (RetM Tryz.prog (171:Nat) [AV.addr 1000000000000 0,ai x.kind] [(1000000000000,Row.mk 1 false true [AV.ref 5,ai (↑c:Int)]),(5,Row.mk 3 true false (encA frmC fr))] (ai (admE c fr.length x.kind)) [(1000000000000,Row.mk 1 false true [AV.ref 5,ai (↑c:Int)]),(5,Row.mk 3 true false (encA frmC fr))]) (admit_retm (fr) (c) (x.kind) (by omega)),yB ([AV.ref 5,ai (↑c:Int)].length= [AV.ref 5,ai (↑c:Int)].length∧(0:Nat)< [AV.ref 5,ai (↑c:Int)].length) (by simp [n2]),yB (ao (admE c fr.length x.kind != (0:Int))=ao false) (by simp [n2])] ?_
  refine zF 17 ?_
  refine zK ?_
  refine then_n ?_
  refine zS ?_
  refine zP 1 [yH [(1,yV (ao (shpB x)))]] [.keep [21,17,5,9,4,3,0,1] [1000000000000,5,3]] [yI (shaped_ret x (by assumption) (by assumption))] ?_
  refine zFb 21 (!shpB x) (by simp_all) ?_
  refine zK ?_
  refine then_n ?_
  refine zS ?_
  refine zP 1 [yH [(2,yV (ai (↑x.dat.length:Int)))]] [.keep [25,21,17,5,9,4,3,0,1] [1000000000000,5,3]] [yR (ai (↑x.dat.length:Int))] ?_
  refine zTd 25 ((↑x.dat.length:Int)>1024) ?_
  refine zQ 1 [{}] [] ?_
  refine zR ?_
  refine then_r ?_
  refine DoneM.ret_ [] (s2:=AS.mk [(4,ai 8),(25,ao (decide ((↑x.dat.length:Int)>1024))),(21,ao (!shpB x)),(17,ao false),(5,ai (admE c fr.length x.kind)),(9,ao (decide ((0:Nat)<c∧fr.length=(0:Nat)))),(3,AV.addr 3 0),(0,AV.addr 1000000000000 0),(1,AV.agg [ai x.kind,aw x.num,AV.val (Value.string (ByteArray.mk x.dat.toArray))])] [(1000000000000,Row.mk 1 false true [AV.ref 5,ai (↑c:Int)]),(5,Row.mk 3 true false (encA frmC fr)),(3,Row.mk 1 false true (List.map (kill0 (5:Nat)) (List.map (kill0 (5:Nat)) (List.map (kill0 (3:Nat)) (itmC x)))))]) (by kernel_rfl) (C:=[Value.int .i64 8=Value.int .i64 (itE fr c x),[AV.ref 5,ai (↑c:Int)]= [AV.ref 5,ai (↑c:Int)],encA frmC fr=encA frmC fr]) (by kernel_rfl) ⟨(by rw [h2]),rfl,rfl,trivial⟩
 rw [if_neg n4] at h2
 by_cases n5:x.kind=5
 ·by_cases n7:512<wv x.num
  ·rw [if_pos ⟨n5,n7⟩] at h2
   refine RetM.of_fn Tryz.func162 (by kernel_rfl) 44 (by kernel_rfl) (by kernel_rfl) ?_
   refine zQ 1 [{}] [] ?_
   refine zS ?_
   refine zP 1 [yH [(3,{av:=some (ao (decide ((0:Nat)<c∧fr.length=(0:Nat)))),ln:=[(1000000000000,1000000000000),(5,5)],ho:=[(1000000000000,Row.mk 1 false true [AV.ref 5,ai (↑c:Int)]),(5,Row.mk 3 true false (encA frmC fr))]})]] [.keep [9,4,3,0,1] [1000000000000,5,3]] [yB (RetM Tryz.prog (163:Nat) [AV.addr 1000000000000 0] [(1000000000000,Row.mk 1 false true [AV.ref 5,ai (↑c:Int)]),(5,Row.mk 3 true false (encA frmC fr))] (ao (decide ((0:Nat)<c∧fr.length=(0:Nat)))) [(1000000000000,Row.mk 1 false true [AV.ref 5,ai (↑c:Int)]),(5,Row.mk 3 true false (encA frmC fr))]) (done_retm (fr) (c) (by omega)),yB ([AV.ref 5,ai (↑c:Int)].length= [AV.ref 5,ai (↑c:Int)].length∧(0:Nat)< [AV.ref 5,ai (↑c:Int)].length) (by simp [n2])] ?_
   refine zFb 9 (decide ((0:Nat)<c∧fr.length=(0:Nat))) (by assumption) ?_
   refine zK ?_
   refine then_n ?_
   refine zS ?_
   refine zP 2 [{hs:=[(5,{av:=some (ai (admE c fr.length x.kind)),ln:=[(1000000000000,1000000000000),(5,5)],ho:=[(1000000000000,Row.mk 1 false true [AV.ref 5,ai (↑c:Int)]),(5,Row.mk 3 true false (encA frmC fr))]})],T:=5},yH [(1,yV (ao false))]] [.keep [17,5,9,4,3,0,1] [1000000000000,5,3]] [yB (RetM Tryz.prog (171:Nat) [AV.addr 1000000000000 0,ai x.kind] [(1000000000000,Row.mk 1 false true [AV.ref 5,ai (↑c:Int)]),(5,Row.mk 3 true false (encA frmC fr))] (ai (admE c fr.length x.kind)) [(1000000000000,Row.mk 1 false true [AV.ref 5,ai (↑c:Int)]),(5,Row.mk 3 true false (encA frmC fr))]) (admit_retm (fr) (c) (x.kind) (by omega)),yB ([AV.ref 5,ai (↑c:Int)].length= [AV.ref 5,ai (↑c:Int)].length∧(0:Nat)< [AV.ref 5,ai (↑c:Int)].length) (by simp [n2]),yB (ao (admE c fr.length x.kind != (0:Int))=ao false) (by simp [n2])] ?_
   refine zF 17 ?_
   refine zK ?_
   refine then_n ?_
   refine zS ?_
   refine zP 1 [yH [(1,yV (ao (shpB x)))]] [.keep [21,17,5,9,4,3,0,1] [1000000000000,5,3]] [yI (shaped_ret x (by assumption) (by assumption))] ?_
   refine zFb 21 (!shpB x) (by simp_all) ?_
   refine zK ?_
   refine then_n ?_
   refine zS ?_
   refine zP 1 [yH [(2,yV (ai (↑x.dat.length:Int)))]] [.keep [25,21,17,5,9,4,3,0,1] [1000000000000,5,3]] [yR (ai (↑x.dat.length:Int))] ?_
   refine zFd 25 ((↑x.dat.length:Int)>1024) ?_
   refine zK ?_
   refine then_n ?_
   refine zS ?_
   refine zP 1 [{}] [.keep [38,25,21,17,5,9,4,3,0,1] [1000000000000,5,3]] [yB ((x.kind == (5:Int))=true) (decide_eq_true (by omega)),yB ((x.kind == (5:Int))=true) (decide_eq_true (by omega)),yB ((x.kind == (5:Int))=true) (decide_eq_true (by omega)),yB ((x.kind == (5:Int))=true) (decide_eq_true (by omega)),yR true,yR true,yR true,yR true] ?_
   refine zTd 38 (wv x.num>512) ?_
   refine zQ 1 [{}] [] ?_
   refine zR ?_
   refine then_r ?_
   refine DoneM.ret_ [] (s2:=AS.mk [(4,ai 8),(38,ao (decide (wv x.num>512))),(25,ao (decide ((↑x.dat.length:Int)>1024))),(21,ao (!shpB x)),(17,ao false),(5,ai (admE c fr.length x.kind)),(9,ao (decide ((0:Nat)<c∧fr.length=(0:Nat)))),(3,AV.addr 3 0),(0,AV.addr 1000000000000 0),(1,AV.agg [ai x.kind,aw x.num,AV.val (Value.string (ByteArray.mk x.dat.toArray))])] [(1000000000000,Row.mk 1 false true [AV.ref 5,ai (↑c:Int)]),(5,Row.mk 3 true false (encA frmC fr)),(3,Row.mk 1 false true (List.map (kill0 (5:Nat)) (List.map (kill0 (5:Nat)) (List.map (kill0 (3:Nat)) (itmC x)))))]) (by kernel_rfl) (C:=[Value.int .i64 8=Value.int .i64 (itE fr c x),[AV.ref 5,ai (↑c:Int)]= [AV.ref 5,ai (↑c:Int)],encA frmC fr=encA frmC fr]) (by kernel_rfl) ⟨(by rw [h2]),rfl,rfl,trivial⟩
  ·rw [if_neg (fun q=>n7 q.2)] at h2
   have e6:accE x=0:=by unfold accE;rw [if_neg (by omega)]
   exact absurd (h2.trans e6) h
 ·have hk6:x.kind≠6:=by rcases hk with q|q|q|q<;>omega
  rw [if_neg (fun q=>n5 q.1)] at h2
  have n6:accE x≠0:=by omega
  have e6:accE x=6:=by
   unfold accE at n6 ⊢
   split
   ·rfl
   ·rename_i q;rw [if_neg q] at n6;omega
  refine RetM.of_fn Tryz.func162 (by kernel_rfl) 44 (by kernel_rfl) (by kernel_rfl) ?_
  refine zQ 1 [{}] [] ?_
  refine zS ?_
  refine zP 1 [yH [(3,{av:=some (ao (decide ((0:Nat)<c∧fr.length=(0:Nat)))),ln:=[(1000000000000,1000000000000),(5,5)],ho:=[(1000000000000,Row.mk 1 false true [AV.ref 5,ai (↑c:Int)]),(5,Row.mk 3 true false (encA frmC fr))]})]] [.keep [9,4,3,0,1] [1000000000000,5,3]] [yB (RetM Tryz.prog (163:Nat) [AV.addr 1000000000000 0] [(1000000000000,Row.mk 1 false true [AV.ref 5,ai (↑c:Int)]),(5,Row.mk 3 true false (encA frmC fr))] (ao (decide ((0:Nat)<c∧fr.length=(0:Nat)))) [(1000000000000,Row.mk 1 false true [AV.ref 5,ai (↑c:Int)]),(5,Row.mk 3 true false (encA frmC fr))]) (done_retm (fr) (c) (by omega)),yB ([AV.ref 5,ai (↑c:Int)].length= [AV.ref 5,ai (↑c:Int)].length∧(0:Nat)< [AV.ref 5,ai (↑c:Int)].length) (by simp [n2])] ?_
  refine zFb 9 (decide ((0:Nat)<c∧fr.length=(0:Nat))) (by assumption) ?_
  refine zK ?_
  refine then_n ?_
  refine zS ?_
  refine zP 2 [{hs:=[(5,{av:=some (ai (admE c fr.length x.kind)),ln:=[(1000000000000,1000000000000),(5,5)],ho:=[(1000000000000,Row.mk 1 false true [AV.ref 5,ai (↑c:Int)]),(5,Row.mk 3 true false (encA frmC fr))]})],T:=5},yH [(1,yV (ao false))]] [.keep [17,5,9,4,3,0,1] [1000000000000,5,3]] [yB (RetM Tryz.prog (171:Nat) [AV.addr 1000000000000 0,ai x.kind] [(1000000000000,Row.mk 1 false true [AV.ref 5,ai (↑c:Int)]),(5,Row.mk 3 true false (encA frmC fr))] (ai (admE c fr.length x.kind)) [(1000000000000,Row.mk 1 false true [AV.ref 5,ai (↑c:Int)]),(5,Row.mk 3 true false (encA frmC fr))]) (admit_retm (fr) (c) (x.kind) (by omega)),yB ([AV.ref 5,ai (↑c:Int)].length= [AV.ref 5,ai (↑c:Int)].length∧(0:Nat)< [AV.ref 5,ai (↑c:Int)].length) (by simp [n2]),yB (ao (admE c fr.length x.kind != (0:Int))=ao false) (by simp [n2])] ?_
  refine zF 17 ?_
  refine zK ?_
  refine then_n ?_
  refine zS ?_
  refine zP 1 [yH [(1,yV (ao (shpB x)))]] [.keep [21,17,5,9,4,3,0,1] [1000000000000,5,3]] [yI (shaped_ret x (by assumption) (by assumption))] ?_
  refine zFb 21 (!shpB x) (by simp_all) ?_
  refine zK ?_
  refine then_n ?_
  refine zS ?_
  refine zP 1 [yH [(2,yV (ai (↑x.dat.length:Int)))]] [.keep [25,21,17,5,9,4,3,0,1] [1000000000000,5,3]] [yR (ai (↑x.dat.length:Int))] ?_
  refine zFd 25 ((↑x.dat.length:Int)>1024) ?_
  refine zK ?_
  refine then_n ?_
  refine zS ?_
  refine zP 1 [yH [(4,{g:=false}),(5,{g:=false}),(6,{g:=false}),(7,{b:=false}),(9,{g:=false}),(10,{g:=false}),(11,{g:=false}),(12,{b:=false})]] [.keep [38,25,21,17,5,9,4,3,0,1] [1000000000000,5,3]] [yB ((x.kind == (5:Int))=false) (decide_eq_false (by omega)),yB ((x.kind == (5:Int))=false) (decide_eq_false (by omega)),yB ((x.kind == (5:Int))=false) (decide_eq_false (by omega)),yB ((x.kind == (5:Int))=false) (decide_eq_false (by omega)),yB ((x.kind == (6:Int))=false) (decide_eq_false (by omega)),yB ((x.kind == (6:Int))=false) (decide_eq_false (by omega)),yB ((x.kind == (6:Int))=false) (decide_eq_false (by omega)),yB ((x.kind == (6:Int))=false) (decide_eq_false (by omega))] ?_
  refine zF 38 ?_
  refine zK ?_
  refine then_n ?_
  refine zP 1 [{hs:=[(4,{av:=some (ai 6),ln:=[(1000000000000,1000000000000),(5,5)],ho:=[(1000000000000,Row.mk 1 false true [AV.ref 5,ai (↑c:Int)]),(5,Row.mk 3 true false (encA frmC fr))]})],T:=4}] [.keep [4,38,25,21,17,5,9,3,0,1] [1000000000000,5,3]] [yB (RetM Tryz.prog (173:Nat) [AV.addr 1000000000000 0,AV.agg [ai x.kind,aw x.num,AV.val (Value.string (ByteArray.mk x.dat.toArray))]] [(1000000000000,Row.mk 1 false true [AV.ref 5,ai (↑c:Int)]),(5,Row.mk 3 true false (encA frmC fr))] (ai 6) [(1000000000000,Row.mk 1 false true [AV.ref 5,ai (↑c:Int)]),(5,Row.mk 3 true false (encA frmC fr))]) (acceptE_retm (fr) (c) (x) (by assumption) (by assumption)),yB ([AV.ref 5,ai (↑c:Int)].length= [AV.ref 5,ai (↑c:Int)].length∧(0:Nat)< [AV.ref 5,ai (↑c:Int)].length) (by simp [n2])] ?_
  refine zR ?_
  refine DoneM.ret_ [] (s2:=AS.mk [(4,ai 6),(38,ao false),(25,ao (decide ((↑x.dat.length:Int)>1024))),(21,ao (!shpB x)),(17,ao false),(5,ai (admE c fr.length x.kind)),(9,ao (decide ((0:Nat)<c∧fr.length=(0:Nat)))),(3,AV.addr 3 0),(0,AV.addr 1000000000000 0),(1,AV.agg [ai x.kind,aw x.num,AV.val (Value.string (ByteArray.mk x.dat.toArray))])] [(1000000000000,Row.mk 1 false true [AV.ref 5,ai (↑c:Int)]),(5,Row.mk 3 true false (encA frmC fr)),(3,Row.mk 1 false true (List.map (kill0 (5:Nat)) (List.map (kill0 (5:Nat)) (List.map (kill0 (5:Nat)) (List.map (kill0 (3:Nat)) (itmC x))))))]) (by kernel_rfl) (C:=[Value.int .i64 6=Value.int .i64 (itE fr c x),[AV.ref 5,ai (↑c:Int)]= [AV.ref 5,ai (↑c:Int)],encA frmC fr=encA frmC fr]) (by kernel_rfl) ⟨(by rw [h2,e6]),rfl,rfl,trivial⟩
end Go.Proofs.YtjgbhhnghedgdaaGreatDoor
