import Derived.Test.YtjgbhhnghedgdaaGreatDoorZsV8
import Derived.Test.YtjgbhhnghedgdaaGreatDoorZsRQ
set_option linter.all false
namespace Go.Proofs.YtjgbhhnghedgdaaGreatDoor
open Go.RowKit
set_option maxRecDepth 100000
set_option maxHeartbeats 4000000
set_option linter.unusedVariables false
structure Itm where
 kind:Int
 num:UInt64
 dat:List UInt8
def itmC (x:Itm):List AV:=[ai x.kind,aw x.num,as_ x.dat]
def frmC (k:Int):List AV:=[ao false,ai k,.nil]
def wkH (fr:List Int) (c:Nat):List (Nat×Row):=[(1000000000000,⟨1,false,true,[.ref 5,ai c]⟩),(5,⟨3,true,false,encA frmC fr⟩)]
theorem done_retm (fr:List Int) (c:Nat) (hf:fr.length≤1000000):RetM Tryz.prog 163 [.addr 1000000000000 0] (wkH fr c) (ao (decide (0<c∧fr.length=0))) (wkH fr c):=by
 have hl:(encA frmC fr).length=fr.length*3:=encA_len (e:=3) (fun _=>rfl) ..
 by_cases h:0<c
 ·by_cases h2:fr.length=0
  ·rw [decide_eq_true (⟨h,h2⟩:0<c∧fr.length=0)]
   refine RetM.of_fn Tryz.func163 (by kernel_rfl) 16 (by kernel_rfl) (by kernel_rfl) ?_
   refine zP 2 [{},yH [(10,{k:=fr.length})]] [.keep [2,0] [1000000000000,5]] [yT ((↑c:Int)>0),yT ((↑c:Int)>0),yT ((↑c:Int)>0),yT ((↑c:Int)>0),yT ((↑c:Int)>0),yB ((encA frmC fr).length=fr.length*(3:Nat)) (by assumption),yT ((↑c:Int)>0),yT ((↑c:Int)>0)] ?_
   refine zR ?_
   refine DoneM.ret_ [] (s2:=AS.mk [(2,ao ((↑fr.length:Int) == (0:Int))),(0,AV.addr 1000000000000 0)] [(1000000000000,Row.mk 1 false true [AV.ref 5,ai (↑c:Int)]),(5,Row.mk 3 true false (encA frmC fr))]) (by kernel_rfl) (C:=[Value.bool ((↑fr.length:Int) == (0:Int))=Value.bool true,[AV.ref 5,ai (↑c:Int)]= [AV.ref 5,ai (↑c:Int)],encA frmC fr=encA frmC fr]) (by kernel_rfl) ⟨(by simp [h2]),(by simp [h2]),(by simp [h2]),trivial⟩
  ·rw [decide_eq_false (fun q:0<c∧fr.length=0=>h2 q.2)]
   refine RetM.of_fn Tryz.func163 (by kernel_rfl) 16 (by kernel_rfl) (by kernel_rfl) ?_
   refine zP 2 [{},yH [(10,{k:=fr.length})]] [.keep [2,0] [1000000000000,5]] [yT ((↑c:Int)>0),yT ((↑c:Int)>0),yT ((↑c:Int)>0),yT ((↑c:Int)>0),yT ((↑c:Int)>0),yB ((encA frmC fr).length=fr.length*(3:Nat)) (by assumption),yT ((↑c:Int)>0),yT ((↑c:Int)>0)] ?_
   refine zR ?_
   refine DoneM.ret_ [] (s2:=AS.mk [(2,ao ((↑fr.length:Int) == (0:Int))),(0,AV.addr 1000000000000 0)] [(1000000000000,Row.mk 1 false true [AV.ref 5,ai (↑c:Int)]),(5,Row.mk 3 true false (encA frmC fr))]) (by kernel_rfl) (C:=[Value.bool ((↑fr.length:Int) == (0:Int))=Value.bool false,[AV.ref 5,ai (↑c:Int)]= [AV.ref 5,ai (↑c:Int)],encA frmC fr=encA frmC fr]) (by kernel_rfl) ⟨(congrArg Value.bool (beq_eq_false_iff_ne.2 (by omega))),rfl,rfl,trivial⟩
 ·rw [decide_eq_false (fun q:0<c∧fr.length=0=>h q.1)]
  refine RetM.of_fn Tryz.func163 (by kernel_rfl) 16 (by kernel_rfl) (by kernel_rfl) ?_
  refine zP 2 [{},yH [(6,{g:=false}),(7,{g:=false}),(8,{g:=false}),(9,{g:=false}),(10,{g:=false}),(11,{g:=false}),(12,{b:=false})]] [.keep [2,0] [1000000000000,5]] [yF ((↑c:Int)>0),yF ((↑c:Int)>0),yF ((↑c:Int)>0),yF ((↑c:Int)>0),yF ((↑c:Int)>0),yF ((↑c:Int)>0),yF ((↑c:Int)>0)] ?_
  refine zR ?_
  refine DoneM.ret_ [] (s2:=AS.mk [(2,ao false),(0,AV.addr 1000000000000 0)] [(1000000000000,Row.mk 1 false true [AV.ref 5,ai (↑c:Int)]),(5,Row.mk 3 true false (encA frmC fr))]) (by kernel_rfl) (C:=[Value.bool false=Value.bool false,[AV.ref 5,ai (↑c:Int)]= [AV.ref 5,ai (↑c:Int)],encA frmC fr=encA frmC fr]) (by kernel_rfl) ⟨rfl,rfl,rfl,trivial⟩
theorem atkey_retm (fr:List Int) (c:Nat) (hf:fr.length≤1000000):RetM Tryz.prog 174 [.addr 1000000000000 0] (wkH fr c) (ao false) (wkH fr c):=by
 have hl:(encA frmC fr).length=fr.length*3:=encA_len (e:=3) (fun _=>rfl) ..
 by_cases h:0<fr.length
 ·obtain ⟨n,hn⟩:∃n,fr.length=n+1:=⟨fr.length-1,by omega⟩
  refine RetM.of_fn Tryz.func174 (by kernel_rfl) 35 (by kernel_rfl) (by kernel_rfl) ?_
  have w:IntKind.i64.wrap ((fr.length:Int)-1)=n:=by rw [IntKind.wrap_i64];omega
  have h2:n*3<(encA frmC fr).length:=by omega
  have h3:(encA frmC fr)[n*3]?=some (ao false):=encA_at (f:=frmC) (e:=3) (l:=fr) (k:=n) (j:=0) (fun _=>rfl) (by omega) rfl
  refine zP 3 [{},yH [(4,{k:=fr.length})],yH [(8,yV (ai (↑n:Int))),(9,{k:=n}),(11,yV (ao false)),(14,{g:=false}),(15,{g:=false}),(16,{g:=false}),(17,{g:=false}),(18,{g:=false}),(19,{g:=false}),(20,{g:=false}),(21,{g:=false}),(22,{g:=false}),(23,{g:=false}),(24,{g:=false}),(25,{b:=false})]] [.keep [2,3,0] [1000000000000,5]] [yB ((encA frmC fr).length=fr.length*(3:Nat)) (by assumption),yT ((↑fr.length:Int)>0),yT ((↑fr.length:Int)>0),yT ((↑fr.length:Int)>0),yT ((↑fr.length:Int)>0),yT ((↑fr.length:Int)>0),yT ((↑fr.length:Int)>0),yB (ai (IntKind.i64.wrap ((↑fr.length:Int)-1))=ai (↑n:Int)) (congrArg (fun n=>AV.val (.int .i64 n)) w),yT ((↑fr.length:Int)>0),yR (↑n:Int),yB (n*(3:Nat)<(encA frmC fr).length) (by assumption),yT ((↑fr.length:Int)>0),yT ((↑fr.length:Int)>0),yB ((encA frmC fr)[n*(3:Nat)]?=some (ao false)) (encA_at (f:=frmC) (e:=3) (k:=n) (j:=0) (fun _=>rfl) (by omega) rfl),yT ((↑fr.length:Int)>0),yR false,yR false,yR false,yR false,yR false,yR false,yR false,yR false,yR false,yR false,yR false,yR false] ?_
  refine zR ?_
  refine DoneM.ret_ [] (s2:=AS.mk [(2,ao false),(3,ai (↑fr.length:Int)),(0,AV.addr 1000000000000 0)] [(1000000000000,Row.mk 1 false true [AV.ref 5,ai (↑c:Int)]),(5,Row.mk 3 true false (encA frmC fr))]) (by kernel_rfl) (C:=[Value.bool false=Value.bool false,[AV.ref 5,ai (↑c:Int)]= [AV.ref 5,ai (↑c:Int)],encA frmC fr=encA frmC fr]) (by kernel_rfl) ⟨rfl,rfl,rfl,trivial⟩
 ·refine RetM.of_fn Tryz.func174 (by kernel_rfl) 35 (by kernel_rfl) (by kernel_rfl) ?_
  refine zP 3 [{},yH [(4,{k:=fr.length})],yH [(3,{g:=false}),(4,{g:=false}),(5,{g:=false}),(6,{g:=false}),(7,{g:=false}),(8,{g:=false}),(9,{g:=false}),(10,{g:=false}),(11,{g:=false}),(12,{b:=false}),(14,{g:=false}),(15,{g:=false}),(16,{g:=false}),(17,{g:=false}),(18,{g:=false}),(19,{g:=false}),(20,{g:=false}),(21,{g:=false}),(22,{g:=false}),(23,{g:=false}),(24,{g:=false}),(25,{b:=false})]] [.keep [2,3,0] [1000000000000,5]] [yB ((encA frmC fr).length=fr.length*(3:Nat)) (by assumption),yF ((↑fr.length:Int)>0),yF ((↑fr.length:Int)>0),yF ((↑fr.length:Int)>0),yF ((↑fr.length:Int)>0),yF ((↑fr.length:Int)>0),yF ((↑fr.length:Int)>0),yF ((↑fr.length:Int)>0),yF ((↑fr.length:Int)>0),yF ((↑fr.length:Int)>0),yF ((↑fr.length:Int)>0),yR false,yR false,yR false,yR false,yR false,yR false,yR false,yR false,yR false,yR false,yR false,yR false] ?_
  refine zR ?_
  refine DoneM.ret_ [] (s2:=AS.mk [(2,ao false),(3,ai (↑fr.length:Int)),(0,AV.addr 1000000000000 0)] [(1000000000000,Row.mk 1 false true [AV.ref 5,ai (↑c:Int)]),(5,Row.mk 3 true false (encA frmC fr))]) (by kernel_rfl) (C:=[Value.bool false=Value.bool false,[AV.ref 5,ai (↑c:Int)]= [AV.ref 5,ai (↑c:Int)],encA frmC fr=encA frmC fr]) (by kernel_rfl) ⟨rfl,rfl,rfl,trivial⟩
def admE (c n:Nat) (k:Int):Int:=if 512≤c then 8 else if k<1∨8<k then 3 else if 8<n then 5 else 0
theorem admit_retm (fr:List Int) (c:Nat) (k:Int) (hf:fr.length≤1000000):RetM Tryz.prog 171 [.addr 1000000000000 0,ai k] (wkH fr c) (ai (admE c fr.length k)) (wkH fr c):=by
 have hl:(encA frmC fr).length=fr.length*3:=encA_len (e:=3) (fun _=>rfl) ..
 by_cases h1:512≤c
 ·have e:admE c fr.length k=8:=if_pos h1
  refine RetM.of_fn Tryz.func171 (by kernel_rfl) 36 (by kernel_rfl) (by kernel_rfl) ?_
  refine zQ 1 [{}] [] ?_
  refine zS ?_
  refine zP 1 [{}] [.keep [9,4,0,1] [1000000000000,5]] [] ?_
  refine zTd 9 ((↑c:Int)≥512) ?_
  refine zQ 1 [{}] [] ?_
  refine zR ?_
  refine then_r ?_
  refine DoneM.ret_ [] (s2:=AS.mk [(4,ai 8),(9,ao (decide ((↑c:Int)≥512))),(0,AV.addr 1000000000000 0),(1,ai k)] [(1000000000000,Row.mk 1 false true [AV.ref 5,ai (↑c:Int)]),(5,Row.mk 3 true false (encA frmC fr))]) (by kernel_rfl) (C:=[Value.int .i64 8=Value.int .i64 (admE c fr.length k),[AV.ref 5,ai (↑c:Int)]= [AV.ref 5,ai (↑c:Int)],encA frmC fr=encA frmC fr]) (by kernel_rfl) ⟨(by rw [e]),rfl,rfl,trivial⟩
 by_cases h2:k<1
 ·have e:admE c fr.length k=3:=by unfold admE;rw [if_neg h1,if_pos (.inl h2)]
  refine RetM.of_fn Tryz.func171 (by kernel_rfl) 36 (by kernel_rfl) (by kernel_rfl) ?_
  refine zQ 1 [{}] [] ?_
  refine zS ?_
  refine zP 1 [{}] [.keep [9,4,0,1] [1000000000000,5]] [] ?_
  refine zFd 9 ((↑c:Int)≥512) ?_
  refine zK ?_
  refine then_n ?_
  refine zS ?_
  refine zP 1 [{}] [.keep [15,9,4,0,1] [1000000000000,5]] [yT (k<1),yT (k<1),yT (k<1)] ?_
  refine zT 15 ?_
  refine zQ 1 [{}] [] ?_
  refine zR ?_
  refine then_r ?_
  refine DoneM.ret_ [] (s2:=AS.mk [(4,ai 3),(15,ao true),(9,ao (decide ((↑c:Int)≥512))),(0,AV.addr 1000000000000 0),(1,ai k)] [(1000000000000,Row.mk 1 false true [AV.ref 5,ai (↑c:Int)]),(5,Row.mk 3 true false (encA frmC fr))]) (by kernel_rfl) (C:=[Value.int .i64 3=Value.int .i64 (admE c fr.length k),[AV.ref 5,ai (↑c:Int)]= [AV.ref 5,ai (↑c:Int)],encA frmC fr=encA frmC fr]) (by kernel_rfl) ⟨(by rw [e]),rfl,rfl,trivial⟩
 by_cases h3:8<k
 ·have e:admE c fr.length k=3:=by unfold admE;rw [if_neg h1,if_pos (.inr h3)]
  refine RetM.of_fn Tryz.func171 (by kernel_rfl) 36 (by kernel_rfl) (by kernel_rfl) ?_
  refine zQ 1 [{}] [] ?_
  refine zS ?_
  refine zP 1 [{}] [.keep [9,4,0,1] [1000000000000,5]] [] ?_
  refine zFd 9 ((↑c:Int)≥512) ?_
  refine zK ?_
  refine then_n ?_
  refine zS ?_
  refine zP 1 [yH [(3,{g:=false}),(4,{g:=false}),(5,{b:=false})]] [.keep [15,9,4,0,1] [1000000000000,5]] [yF (k<1),yF (k<1),yF (k<1)] ?_
  refine zTd 15 (k>8) ?_
  refine zQ 1 [{}] [] ?_
  refine zR ?_
  refine then_r ?_
  refine DoneM.ret_ [] (s2:=AS.mk [(4,ai 3),(15,ao (decide (k>8))),(9,ao (decide ((↑c:Int)≥512))),(0,AV.addr 1000000000000 0),(1,ai k)] [(1000000000000,Row.mk 1 false true [AV.ref 5,ai (↑c:Int)]),(5,Row.mk 3 true false (encA frmC fr))]) (by kernel_rfl) (C:=[Value.int .i64 3=Value.int .i64 (admE c fr.length k),[AV.ref 5,ai (↑c:Int)]= [AV.ref 5,ai (↑c:Int)],encA frmC fr=encA frmC fr]) (by kernel_rfl) ⟨(by rw [e]),rfl,rfl,trivial⟩
 by_cases h4:8<fr.length
 ·have e:admE c fr.length k=5:=by unfold admE;rw [if_neg h1,if_neg (by omega),if_pos h4]
  refine RetM.of_fn Tryz.func171 (by kernel_rfl) 36 (by kernel_rfl) (by kernel_rfl) ?_
  refine zQ 1 [{}] [] ?_
  refine zS ?_
  refine zP 1 [{}] [.keep [9,4,0,1] [1000000000000,5]] [] ?_
  refine zFd 9 ((↑c:Int)≥512) ?_
  refine zK ?_
  refine then_n ?_
  refine zS ?_
  refine zP 1 [yH [(3,{g:=false}),(4,{g:=false}),(5,{b:=false})]] [.keep [15,9,4,0,1] [1000000000000,5]] [yF (k<1),yF (k<1),yF (k<1)] ?_
  refine zFd 15 (k>8) ?_
  refine zK ?_
  refine then_n ?_
  refine zS ?_
  refine zP 1 [yH [(1,{av:=some (ao false),ln:=[(1000000000000,1000000000000),(5,5)],ho:=[(1000000000000,Row.mk 1 false true [AV.ref 5,ai (↑c:Int)]),(5,Row.mk 3 true false (encA frmC fr))]}),(3,{g:=false}),(4,{g:=false}),(5,{b:=false}),(7,{g:=false}),(8,{g:=false}),(9,{b:=false}),(11,{g:=false}),(12,{g:=false}),(13,{b:=false})]] [.keep [29,15,9,4,0,1] [1000000000000,5]] [yB (RetM Tryz.prog (174:Nat) [AV.addr 1000000000000 0] [(1000000000000,Row.mk 1 false true [AV.ref 5,ai (↑c:Int)]),(5,Row.mk 3 true false (encA frmC fr))] (ao false) [(1000000000000,Row.mk 1 false true [AV.ref 5,ai (↑c:Int)]),(5,Row.mk 3 true false (encA frmC fr))]) (atkey_retm (fr) (c) (by assumption)),yB ([AV.ref 5,ai (↑c:Int)].length= [AV.ref 5,ai (↑c:Int)].length∧(0:Nat)< [AV.ref 5,ai (↑c:Int)].length) ⟨rfl,Nat.succ_pos _⟩,yR false,yR false,yR false,yR false,yR false,yR false,yR false,yR false,yR false] ?_
  refine zF 29 ?_
  refine zK ?_
  refine then_n ?_
  refine zS ?_
  refine zP 1 [yH [(4,{k:=fr.length})]] [.keep [35,29,15,9,4,0,1] [1000000000000,5]] [yB ((encA frmC fr).length=fr.length*(3:Nat)) (by assumption)] ?_
  refine zTd 35 ((↑fr.length:Int)>8) ?_
  refine zQ 1 [{}] [] ?_
  refine zR ?_
  refine then_r ?_
  refine DoneM.ret_ [] (s2:=AS.mk [(4,ai 5),(35,ao (decide ((↑fr.length:Int)>8))),(29,ao false),(15,ao (decide (k>8))),(9,ao (decide ((↑c:Int)≥512))),(0,AV.addr 1000000000000 0),(1,ai k)] [(1000000000000,Row.mk 1 false true [AV.ref 5,ai (↑c:Int)]),(5,Row.mk 3 true false (encA frmC fr))]) (by kernel_rfl) (C:=[Value.int .i64 5=Value.int .i64 (admE c fr.length k),[AV.ref 5,ai (↑c:Int)]= [AV.ref 5,ai (↑c:Int)],encA frmC fr=encA frmC fr]) (by kernel_rfl) ⟨(by rw [e]),rfl,rfl,trivial⟩
 ·have e:admE c fr.length k=0:=by unfold admE;rw [if_neg h1,if_neg (by omega),if_neg h4]
  refine RetM.of_fn Tryz.func171 (by kernel_rfl) 36 (by kernel_rfl) (by kernel_rfl) ?_
  refine zQ 1 [{}] [] ?_
  refine zS ?_
  refine zP 1 [{}] [.keep [9,4,0,1] [1000000000000,5]] [] ?_
  refine zFd 9 ((↑c:Int)≥512) ?_
  refine zK ?_
  refine then_n ?_
  refine zS ?_
  refine zP 1 [yH [(3,{g:=false}),(4,{g:=false}),(5,{b:=false})]] [.keep [15,9,4,0,1] [1000000000000,5]] [yF (k<1),yF (k<1),yF (k<1)] ?_
  refine zFd 15 (k>8) ?_
  refine zK ?_
  refine then_n ?_
  refine zS ?_
  refine zP 1 [yH [(1,{av:=some (ao false),ln:=[(1000000000000,1000000000000),(5,5)],ho:=[(1000000000000,Row.mk 1 false true [AV.ref 5,ai (↑c:Int)]),(5,Row.mk 3 true false (encA frmC fr))]}),(3,{g:=false}),(4,{g:=false}),(5,{b:=false}),(7,{g:=false}),(8,{g:=false}),(9,{b:=false}),(11,{g:=false}),(12,{g:=false}),(13,{b:=false})]] [.keep [29,15,9,4,0,1] [1000000000000,5]] [yB (RetM Tryz.prog (174:Nat) [AV.addr 1000000000000 0] [(1000000000000,Row.mk 1 false true [AV.ref 5,ai (↑c:Int)]),(5,Row.mk 3 true false (encA frmC fr))] (ao false) [(1000000000000,Row.mk 1 false true [AV.ref 5,ai (↑c:Int)]),(5,Row.mk 3 true false (encA frmC fr))]) (atkey_retm (fr) (c) (by assumption)),yB ([AV.ref 5,ai (↑c:Int)].length= [AV.ref 5,ai (↑c:Int)].length∧(0:Nat)< [AV.ref 5,ai (↑c:Int)].length) ⟨rfl,Nat.succ_pos _⟩,yR false,yR false,yR false,yR false,yR false,yR false,yR false,yR false,yR false] ?_
  refine zF 29 ?_
  refine zK ?_
  refine then_n ?_
  refine zS ?_
  refine zP 1 [yH [(4,{k:=fr.length})]] [.keep [35,29,15,9,4,0,1] [1000000000000,5]] [yB ((encA frmC fr).length=fr.length*(3:Nat)) (by assumption)] ?_
  refine zFd 35 ((↑fr.length:Int)>8) ?_
  refine zK ?_
  refine then_n ?_
  refine AWP.regsK 1 [{}] (by kernel_rfl) (s':=AS.mk [(4,ai 0),(35,ao (decide ((↑fr.length:Int)>8))),(29,ao false),(15,ao (decide (k>8))),(9,ao (decide ((↑c:Int)≥512))),(0,AV.addr 1000000000000 0),(1,ai k)] [(1000000000000,Row.mk 1 false true [AV.ref 5,ai (↑c:Int)]),(5,Row.mk 3 true false (encA frmC fr))]) (C:=[]) (by kernel_rfl) trivial ?_
  refine zR ?_
  refine DoneM.ret_ [] (s2:=AS.mk [(4,ai 0),(35,ao (decide ((↑fr.length:Int)>8))),(29,ao false),(15,ao (decide (k>8))),(9,ao (decide ((↑c:Int)≥512))),(0,AV.addr 1000000000000 0),(1,ai k)] [(1000000000000,Row.mk 1 false true [AV.ref 5,ai (↑c:Int)]),(5,Row.mk 3 true false (encA frmC fr))]) (by kernel_rfl) (C:=[Value.int .i64 0=Value.int .i64 (admE c fr.length k),[AV.ref 5,ai (↑c:Int)]= [AV.ref 5,ai (↑c:Int)],encA frmC fr=encA frmC fr]) (by kernel_rfl) ⟨(by rw [e]),rfl,rfl,trivial⟩
def decF (fr:List Int):List Int:=if fr.length=0 then fr else fr.set (fr.length-1) (fr.getD (fr.length-1) 0-1)
def pshF (x:Itm) (fr:List Int):List Int:=if x.kind=5∧0<wv x.num then fr++ [wv x.num] else fr
def popN (l:List Int):Nat->Nat
 | 0=>0
 | n+1=>if l.getD n 0=0 then popN l n else n+1
def popF (l:List Int):List Int:=l.take (popN l l.length)
def stF (fr:List Int) (x:Itm):List Int:=popF (pshF x (decF fr))
theorem set_frm:∀(l:List Int) (n:Nat) (v:Int),n<l.length->(encA frmC l).set (n*3+1) (ai v)=encA frmC (l.set n v)
 | [],n,v,h=>by simp at h
 | k::l,0,v,h=>rfl
 | k::l,n+1,v,h=>by
  have ih:=set_frm l n v (by simpa using h)
  rw [show (n+1)*3+1=n*3+1+1+1+1 by omega]
  show ao false::ai k:: .nil::(encA frmC l).set (n*3+1) (ai v)=_
  rw [ih];rfl
theorem frm_left {l:List Int} {n:Nat} (h:n<l.length):(encA frmC l)[n*3+1]?=some (ai (l.getD n 0)):=encA_at (f:=frmC) (e:=3) (l:=l) (k:=n) (j:=1) (fun _=>rfl) h rfl
theorem round_w {ι:Type} {I:ι->AS} {Inv:ι->Prop} {m:ι->Nat} {Q:Exit->AS->Prop} {x:ι} {s s':AS} (hw:Weaks s s') (h:Round I Inv m Q x .normal s'):Round I Inv m Q x .normal s:=by
 obtain ⟨y,h1,h2,h3⟩:=h
 exact ⟨y,h1,h2,fun S0 w0 n a w hs=>h3 S0 w0 n a w (hw S0 w0 n a w hs)⟩
theorem decF_len (fr:List Int):(decF fr).length=fr.length:=by unfold decF;split<;>simp
theorem pshF_len (x:Itm) (fr:List Int):(pshF x fr).length≤fr.length+1:=by unfold pshF;split<;>simp
theorem step_retm (fr:List Int) (c:Nat) (x:Itm) (hk:x.kind≠6) (hx:x.kind=5->wv x.num≤512) (hf:fr.length≤1000) (hfr:∀k∈fr,-1000≤k∧k≤1000) (hc:c≤1000000):RetM Tryz.prog 176 [.addr 1000000000000 0,.agg (itmC x)] (wkH fr c) (.tup []) (wkH (stF fr x) (c+1)):=by
 have hl:(encA frmC fr).length=fr.length*3:=encA_len (e:=3) (fun _=>rfl) ..
 refine RetM.of_fn Tryz.func176 (by kernel_rfl) 106 (by kernel_rfl) (by kernel_rfl) ?_
 refine zP 2 [{},yH [(4,yV (ai (↑(c+(1:Nat)):Int)))]] [.keep [3,0,1] [1000000000000,3,5]] [yB (ai (IntKind.i64.wrap ((↑c:Int)+1))=ai (↑(c+(1:Nat)):Int)) (av_i64 (by omega) (by omega)),yL 2 2] ?_
 refine AWP.joinX (fun (u:Unit)=>(⟨[(3,AV.addr 3 0),(1,AV.agg [ai x.kind,aw x.num,AV.val (Value.string (ByteArray.mk x.dat.toArray))]),(0,AV.addr 1000000000000 0)],[(3,⟨1,false,true,List.map (kill0 (3:Nat)) (itmC x)⟩),(1000000000000,⟨1,false,true,[.ref 5,ai (c+1:Nat)]⟩),(5,⟨3,true,false,encA frmC (decF fr)⟩)]⟩:AS)) (fun u=>(True)) (by kernel_rfl) ?_ ?_
 ·by_cases h:0<fr.length
  ·obtain ⟨n,hn⟩:∃n,fr.length=n+1:=⟨fr.length-1,by omega⟩
   have hb:=hfr (fr.getD n default) (by rw [List.getD_eq_getElem?_getD,List.getElem?_eq_getElem (by omega)];exact List.getElem_mem (by omega))
   have w:IntKind.i64.wrap ((fr.length:Int)-1)=n:=by rw [IntKind.wrap_i64];omega
   have w2:IntKind.i64.wrap (fr.getD n default-1)=fr.getD n default-1:=by rw [IntKind.wrap_i64];omega
   have h3:=frm_left (l:=fr) (n:=n) (by omega)
   have e1:decF fr=fr.set n (fr.getD n default-1):=by unfold decF;rw [if_neg (by omega),show fr.length-1=n by omega];rfl
   have e2:=set_frm fr n (fr.getD n default-1) (by omega)
   refine zP 2 [yH [(4,{k:=fr.length})],{}] [.keep [19,4,3,0,1] [1000000000000,3,5]] [yB ((encA frmC fr).length=fr.length*(3:Nat)) (by assumption)] ?_
   refine zTd 19 ((↑fr.length:Int)>0) ?_
   refine zX (yH [(5,yV (ai (↑n:Int))),(6,{k:=n}),(8,yV (ai (fr.getD n default))),(9,yV (ai (fr.getD n default-1))),(10,{k:=n})]) [yB (ai (IntKind.i64.wrap ((↑fr.length:Int)-1))=ai (↑n:Int)) (congrArg (fun n=>AV.val (.int .i64 n)) w),yR (↑n:Int),yO (n*(3:Nat)<(encA frmC fr).length),yB ((encA frmC fr)[n*(3:Nat)+(1:Nat)]?=some (ai (fr.getD n default))) (encA_at (f:=frmC) (e:=3) (k:=n) (j:=1) (fun _=>rfl) (by omega) rfl),yN (fr.getD n default-1),yR (↑n:Int),yO (n*(3:Nat)<(encA frmC fr).length),yO (n*(3:Nat)+(1:Nat)+(1:Nat)≤(encA frmC fr).length)] ?_
   refine then_n ?_
   refine ⟨(),trivial,Weaks.of [.keep [3,1,0] [3,1000000000000,5]] (s1:=AS.mk [(3,AV.addr 3 0),(1,AV.agg [ai x.kind,aw x.num,AV.val (Value.string (ByteArray.mk x.dat.toArray))]),(0,AV.addr 1000000000000 0)] [(3,Row.mk 1 false true (List.map (kill0 (3:Nat)) (itmC x))),(1000000000000,Row.mk 1 false true [AV.ref 5,ai (↑(c+(1:Nat)):Int)]),(5,Row.mk 3 true false ((encA frmC fr).set (n*(3:Nat)+(1:Nat)) (ai (fr.getD n default-1))))]) (by kernel_rfl) (as_eq (f_cons rfl (f_cons rfl (f_cons rfl rfl))) (h_cons rfl (h_cons rfl (h_cons (by rw [e1];exact e2) rfl))))⟩
  ·have e1:decF fr=fr:=by unfold decF;rw [if_pos (by omega)]
   refine zP 2 [yH [(4,{k:=fr.length})],{}] [.keep [19,4,3,0,1] [1000000000000,3,5]] [yB ((encA frmC fr).length=fr.length*(3:Nat)) (by assumption)] ?_
   refine zFd 19 ((↑fr.length:Int)>0) ?_
   refine zK ?_
   refine then_n ?_
   refine ⟨(),trivial,Weaks.of [.keep [3,1,0] [3,1000000000000,5]] (s1:=AS.mk [(3,AV.addr 3 0),(1,AV.agg [ai x.kind,aw x.num,AV.val (Value.string (ByteArray.mk x.dat.toArray))]),(0,AV.addr 1000000000000 0)] [(3,Row.mk 1 false true (List.map (kill0 (3:Nat)) (itmC x))),(1000000000000,Row.mk 1 false true [AV.ref 5,ai (↑(c+(1:Nat)):Int)]),(5,Row.mk 3 true false (encA frmC fr))]) (by kernel_rfl) (as_eq (f_cons rfl (f_cons rfl (f_cons rfl rfl))) (h_cons rfl (h_cons rfl (h_cons (by rw [e1]) rfl))))⟩
 rintro u -
 generalize hg:decF fr=f at *
 have hfl:f.length≤1000:=by rw [←hg,decF_len];exact hf
 have hl2:(encA frmC f).length=f.length*3:=encA_len (e:=3) (fun _=>rfl) ..
 refine AWP.joinX (fun (u:Unit)=>(⟨[(3,AV.addr 3 0),(1,AV.agg [ai x.kind,aw x.num,AV.val (Value.string (ByteArray.mk x.dat.toArray))]),(0,AV.addr 1000000000000 0)],[(3,⟨1,false,true,List.map (kill0 (3:Nat)) (itmC x)⟩),(1000000000000,⟨1,false,true,[.ref 5,ai (c+1:Nat)]⟩),(5,⟨3,true,false,encA frmC (pshF x f)⟩)]⟩:AS)) (fun u=>(True)) (by kernel_rfl) ?_ ?_
 ·by_cases h:x.kind=5
  ·have hx:=hx h
   by_cases h2:0<wv x.num
   ·have e1:pshF x f=f++ [wv x.num]:=if_pos ⟨h,h2⟩
    refine zP 1 [{}] [.keep [39,3,1,0] [3,1000000000000,5]] [yB ((x.kind == (5:Int))=true) (decide_eq_true (by omega)),yB ((x.kind == (5:Int))=true) (decide_eq_true (by omega)),yB ((x.kind == (5:Int))=true) (decide_eq_true (by omega)),yB ((x.kind == (5:Int))=true) (decide_eq_true (by omega))] ?_
    refine zTd 39 (wv x.num>0) ?_
    refine AWP.regWX 11 [10] [(7,{av:=some (ai (wv x.num))})] (C:=[ai (IntKind.i64.wrap (wv x.num))=ai (wv x.num),((encA frmC f).length+(3:Nat))*(40:Nat)≤(422212465065984:Nat),AV.addr 1000000000000 0=AV.addr 1000000000000 0,(1:Nat)≤(2:Nat)]) (by kernel_rfl) ⟨(av_i64 (by omega) (by omega)),(by omega),rfl,(by omega),trivial⟩ ?_
    refine then_n ?_
    refine ⟨(),trivial,Weaks.of [.ren 50 5,.keep [3,1,0] [3,1000000000000,5]] (s1:=AS.mk [(3,AV.addr 3 0),(1,AV.agg [ai x.kind,aw x.num,AV.val (Value.string (ByteArray.mk x.dat.toArray))]),(0,AV.addr 1000000000000 0)] [(3,Row.mk 1 false true (List.map (ren0 (50:Nat) (5:Nat)) (killRow (5:Nat) (Row.mk 1 false true (List.map (kill0 (50:Nat)) (killRow (5:Nat) (Row.mk 1 false true (List.map (kill0 (3:Nat)) (itmC x)))).cells))).cells)),(1000000000000,Row.mk 1 false true [AV.ref 5,ai (↑(c+(1:Nat)):Int)]),(5,Row.mk 3 true false (encA frmC f++ [ao false,ai (wv x.num),AV.nil]))]) (by kernel_rfl) (as_eq (f_cons rfl (f_cons rfl (f_cons rfl rfl))) (h_cons rfl (h_cons rfl (h_cons (by rw [e1,←encA_app];rfl) rfl))))⟩
   ·have e1:pshF x f=f:=if_neg (fun q=>h2 q.2)
    refine zP 1 [{}] [.keep [39,3,1,0] [3,1000000000000,5]] [yB ((x.kind == (5:Int))=true) (decide_eq_true (by omega)),yB ((x.kind == (5:Int))=true) (decide_eq_true (by omega)),yB ((x.kind == (5:Int))=true) (decide_eq_true (by omega)),yB ((x.kind == (5:Int))=true) (decide_eq_true (by omega))] ?_
    refine zFd 39 (wv x.num>0) ?_
    refine zK ?_
    refine then_n ?_
    refine ⟨(),trivial,Weaks.of [.keep [3,1,0] [3,1000000000000,5]] (s1:=AS.mk [(3,AV.addr 3 0),(1,AV.agg [ai x.kind,aw x.num,AV.val (Value.string (ByteArray.mk x.dat.toArray))]),(0,AV.addr 1000000000000 0)] [(3,Row.mk 1 false true (List.map (kill0 (3:Nat)) (itmC x))),(1000000000000,Row.mk 1 false true [AV.ref 5,ai (↑(c+(1:Nat)):Int)]),(5,Row.mk 3 true false (encA frmC f))]) (by kernel_rfl) (as_eq (f_cons rfl (f_cons rfl (f_cons rfl rfl))) (h_cons rfl (h_cons rfl (h_cons (by rw [e1]) rfl))))⟩
  ·have e1:pshF x f=f:=if_neg (fun q=>h q.1)
   refine zP 1 [yH [(4,{g:=false}),(5,{g:=false}),(6,{g:=false}),(7,{b:=false})]] [.keep [39,3,1,0] [3,1000000000000,5]] [yB ((x.kind == (5:Int))=false) (decide_eq_false (by omega)),yB ((x.kind == (5:Int))=false) (decide_eq_false (by omega)),yB ((x.kind == (5:Int))=false) (decide_eq_false (by omega)),yB ((x.kind == (5:Int))=false) (decide_eq_false (by omega))] ?_
   refine zF 39 ?_
   refine zK ?_
   refine then_n ?_
   refine ⟨(),trivial,Weaks.of [.keep [3,1,0] [3,1000000000000,5]] (s1:=AS.mk [(3,AV.addr 3 0),(1,AV.agg [ai x.kind,aw x.num,AV.val (Value.string (ByteArray.mk x.dat.toArray))]),(0,AV.addr 1000000000000 0)] [(3,Row.mk 1 false true (List.map (kill0 (3:Nat)) (itmC x))),(1000000000000,Row.mk 1 false true [AV.ref 5,ai (↑(c+(1:Nat)):Int)]),(5,Row.mk 3 true false (encA frmC f))]) (by kernel_rfl) (as_eq (f_cons rfl (f_cons rfl (f_cons rfl rfl))) (h_cons rfl (h_cons rfl (h_cons (by rw [e1]) rfl))))⟩
 rintro u -
 have hst:stF fr x=popF (pshF x f):=by unfold stF;rw [hg]
 have hgl:(pshF x f).length≤1001:=by have:=pshF_len x f;omega
 generalize pshF x f=g at *
 have hl3:(encA frmC g).length=g.length*3:=encA_len (e:=3) (fun _=>rfl) ..
 refine zS ?_
 refine zP 1 [yH [(4,{g:=false}),(5,{g:=false}),(6,{g:=false}),(7,{b:=false})]] [.keep [60,3,1,0] [3,1000000000000,5]] [yB ((x.kind == (6:Int))=false) (decide_eq_false (by omega)),yB ((x.kind == (6:Int))=false) (decide_eq_false (by omega)),yB ((x.kind == (6:Int))=false) (decide_eq_false (by omega)),yB ((x.kind == (6:Int))=false) (decide_eq_false (by omega))] ?_
 refine zF 60 ?_
 refine zK ?_
 refine then_n ?_
 refine zP 1 [yH [(4,{k:=g.length})]] [.keep [5,60,3,1,0] [3,1000000000000,5]] [yB ((encA frmC g).length=g.length*(3:Nat)) (by assumption)] ?_
 refine zB 0 ?_
 refine zL (fun (q:Nat)=>(⟨[(60,ao false),(3,AV.addr 3 0),(1,AV.agg [ai x.kind,aw x.num,AV.val (Value.string (ByteArray.mk x.dat.toArray))]),(5,ai q),(0,AV.addr 1000000000000 0)],[(3,⟨1,false,true,List.map (kill0 (3:Nat)) (itmC x)⟩),(1000000000000,⟨1,false,true,[.ref 5,ai (c+1:Nat)]⟩),(5,⟨3,true,false,encA frmC (g.take q)⟩)]⟩:AS)) (fun q=>(q≤g.length∧popN g q=popN g g.length)) (fun q=>q) (g.length) ?_ (Weaks.of [.keep [60,3,1,5,0] [3,1000000000000,5]] (s1:=AS.mk [(60,ao false),(3,AV.addr 3 0),(1,AV.agg [ai x.kind,aw x.num,AV.val (Value.string (ByteArray.mk x.dat.toArray))]),(5,ai (↑g.length:Int)),(0,AV.addr 1000000000000 0)] [(3,Row.mk 1 false true (List.map (kill0 (3:Nat)) (itmC x))),(1000000000000,Row.mk 1 false true [AV.ref 5,ai (↑(c+(1:Nat)):Int)]),(5,Row.mk 3 true false (encA frmC g))]) (by kernel_rfl) (as_eq (f_cons rfl (f_cons rfl (f_cons rfl (f_cons rfl (f_cons rfl rfl))))) (h_cons rfl (h_cons rfl (h_cons (by rw [List.take_length]) rfl))))) ?_
 ·exact ⟨Nat.le_refl _,rfl⟩
 rintro q ⟨hq,hp⟩
 have hl4:(encA frmC (g.take q)).length=q*3:=by rw [encA_len (e:=3) (fun _=>rfl),List.length_take];omega
 cases q with
 | zero =>
  refine zS ?_
  refine zP 1 [yH [(3,{g:=false}),(4,{g:=false}),(5,{g:=false}),(6,{g:=false}),(7,{g:=false}),(8,{g:=false}),(9,{g:=false}),(10,{g:=false}),(11,{g:=false}),(12,{g:=false}),(13,{b:=false})]] [.keep [93,60,3,1,5,0] [3,1000000000000,5]] [yF ((↑(0:Nat):Int)>0),yF ((↑(0:Nat):Int)>0),yF ((↑(0:Nat):Int)>0),yF ((↑(0:Nat):Int)>0),yF ((↑(0:Nat):Int)>0),yF ((↑(0:Nat):Int)>0),yF ((↑(0:Nat):Int)>0),yF ((↑(0:Nat):Int)>0),yF ((↑(0:Nat):Int)>0),yF ((↑(0:Nat):Int)>0),yF ((↑(0:Nat):Int)>0)] ?_
  refine zF 93 ?_
  refine zE 0 ?_
  refine then_e ?_
  refine round_e ?_
  refine inb_e ?_
  refine DoneM.normal_ [] (s2:=AS.mk [(93,ao false),(60,ao false),(3,AV.addr 3 0),(1,AV.agg [ai x.kind,aw x.num,AV.val (Value.string (ByteArray.mk x.dat.toArray))]),(5,ai (↑(0:Nat):Int)),(0,AV.addr 1000000000000 0)] [(3,Row.mk 1 false true (List.map (kill0 (3:Nat)) (itmC x))),(1000000000000,Row.mk 1 false true [AV.ref 5,ai (↑(c+(1:Nat)):Int)]),(5,Row.mk 3 true false (encA frmC (List.take 0 g)))]) (by kernel_rfl) (C:=[[AV.ref 5,ai (↑(c+(1:Nat)):Int)]= [AV.ref 5,ai (↑(c+(1:Nat)):Int)],encA frmC (List.take 0 g)=encA frmC (stF fr x)]) (by kernel_rfl) ⟨rfl,(by rw [hst,popF,←hp];rfl),trivial⟩
 | succ m =>
  have w:IntKind.i64.wrap ((m+1:Nat)-1:Int)=m:=by rw [IntKind.wrap_i64];omega
  have h3:=frm_left (l:=g.take (m+1)) (n:=m) (by rw [List.length_take];omega)
  have gz:(List.take (m+1) g).getD m default=g.getD m 0:=by
   rw [List.getD_eq_getElem?_getD,List.getElem?_take,if_pos (by omega),←List.getD_eq_getElem?_getD];rfl
  by_cases h:g.getD m 0=0
  ·have e1:popN g (m+1)=popN g m:=by show (if _ then _ else _)=_;rw [if_pos h]
   refine zS ?_
   refine zP 1 [yH [(8,yV (ai ((↑(m+(1:Nat)):Int)-1))),(9,{k:=m+(1:Nat)-(1:Nat)}),(11,yV (ai ((List.take (m+(1:Nat)) g).getD (m+(1:Nat)-(1:Nat)) default))),(12,yV (ao true))]] [.keep [93,60,3,1,5,0] [3,1000000000000,5]] [yT ((↑(m+(1:Nat)):Int)>0),yT ((↑(m+(1:Nat)):Int)>0),yT ((↑(m+(1:Nat)):Int)>0),yT ((↑(m+(1:Nat)):Int)>0),yT ((↑(m+(1:Nat)):Int)>0),yT ((↑(m+(1:Nat)):Int)>0),yN ((↑(m+(1:Nat)):Int)-1),yT ((↑(m+(1:Nat)):Int)>0),yO ((↑(m+(1:Nat)):Int)-1=(↑(m+(1:Nat)-(1:Nat)):Int)),yO ((m+(1:Nat)-(1:Nat))*(3:Nat)<(encA frmC (List.take (m+(1:Nat)) g)).length),yT ((↑(m+(1:Nat)):Int)>0),yT ((↑(m+(1:Nat)):Int)>0),yB ((encA frmC (List.take (m+(1:Nat)) g))[(m+(1:Nat)-(1:Nat))*(3:Nat)+(1:Nat)]?=some (ai ((List.take (m+(1:Nat)) g).getD (m+(1:Nat)-(1:Nat)) default))) (by assumption),yT ((↑(m+(1:Nat)):Int)>0),yB (ao ((List.take (m+(1:Nat)) g).getD (m+(1:Nat)-(1:Nat)) default == (0:Int))=ao true) (by simp only [Nat.add_sub_cancel,gz,h];rfl),yT ((↑(m+(1:Nat)):Int)>0)] ?_
   refine zT 93 ?_
   refine zK ?_
   refine then_n ?_
   refine zS ?_
   refine zB 1 ?_
   refine zX (yH [(6,yV (ai (↑m:Int))),(7,{m:=m})]) [yB (ai (IntKind.i64.wrap ((↑(m+(1:Nat)):Int)-1))=ai (↑m:Int)) (congrArg (fun n=>AV.val (.int .i64 n)) w),yR (↑m:Int),yO (m*(3:Nat)≤(encA frmC (List.take (m+(1:Nat)) g)).length),yL 1 2] ?_
   refine inb_n ?_
   refine then_n ?_
   refine zX (yH [(1,yV (ai ((↑(m+(1:Nat)):Int)-1)))]) [yN ((↑(m+(1:Nat)):Int)-1)] ?_
   have ht:((encA frmC (g.take (m+1))).take (m*3))=encA frmC (g.take m):=by rw [encA_take (e:=3) (fun _=>rfl),List.take_take,Nat.min_eq_left (by omega)]
   refine round_w (Weaks.cut 5 (m*3) (r:=⟨3,true,false,encA frmC (g.take (m+1))⟩) (by kernel_rfl) rfl (by show m*3≤(encA frmC _).length;rw [hl4];omega)) ?_
   refine round_n m ⟨by omega,by rw [←hp,e1]⟩ (by omega) (Weaks.of [.keep [60,3,1,5,0] [3,1000000000000,5]] (s1:=AS.mk [(60,ao false),(3,AV.addr 3 0),(1,AV.agg [ai x.kind,aw x.num,AV.val (Value.string (ByteArray.mk x.dat.toArray))]),(5,ai ((↑(m+(1:Nat)):Int)-1)),(0,AV.addr 1000000000000 0)] [(3,Row.mk 1 false true (List.map (cut0 (5:Nat) (m*(3:Nat))) (List.map (kill0 (3:Nat)) (itmC x)))),(1000000000000,Row.mk 1 false true [cut0 (5:Nat) (m*(3:Nat)) (AV.pre 5 (m*(3:Nat))),ai (↑(c+(1:Nat)):Int)]),(5,Row.mk 3 true false (List.take (m*(3:Nat)) (encA frmC (List.take (m+(1:Nat)) g))))]) (by kernel_rfl) (as_eq (f_cons rfl (f_cons rfl (f_cons rfl (f_cons (congrArg (fun n=>AV.val (.int .i64 n)) (by omega)) (f_cons rfl rfl))))) (h_cons rfl (h_cons (by rw [cut0_pre]) (h_cons ht rfl)))))
  ·have e1:popN g (m+1)=m+1:=by show (if _ then _ else _)=_;rw [if_neg h]
   refine zS ?_
   refine zP 1 [yH [(8,yV (ai ((↑(m+(1:Nat)):Int)-1))),(9,{k:=m+(1:Nat)-(1:Nat)}),(11,yV (ai ((List.take (m+(1:Nat)) g).getD (m+(1:Nat)-(1:Nat)) default))),(12,yV (ao false))]] [.keep [93,60,3,1,5,0] [3,1000000000000,5]] [yT ((↑(m+(1:Nat)):Int)>0),yT ((↑(m+(1:Nat)):Int)>0),yT ((↑(m+(1:Nat)):Int)>0),yT ((↑(m+(1:Nat)):Int)>0),yT ((↑(m+(1:Nat)):Int)>0),yT ((↑(m+(1:Nat)):Int)>0),yN ((↑(m+(1:Nat)):Int)-1),yT ((↑(m+(1:Nat)):Int)>0),yO ((↑(m+(1:Nat)):Int)-1=(↑(m+(1:Nat)-(1:Nat)):Int)),yO ((m+(1:Nat)-(1:Nat))*(3:Nat)<(encA frmC (List.take (m+(1:Nat)) g)).length),yT ((↑(m+(1:Nat)):Int)>0),yT ((↑(m+(1:Nat)):Int)>0),yB ((encA frmC (List.take (m+(1:Nat)) g))[(m+(1:Nat)-(1:Nat))*(3:Nat)+(1:Nat)]?=some (ai ((List.take (m+(1:Nat)) g).getD (m+(1:Nat)-(1:Nat)) default))) (by assumption),yT ((↑(m+(1:Nat)):Int)>0),yB (ao ((List.take (m+(1:Nat)) g).getD (m+(1:Nat)-(1:Nat)) default == (0:Int))=ao false) (by simp only [Nat.add_sub_cancel,gz];rw [beq_eq_false_iff_ne.2 h]),yT ((↑(m+(1:Nat)):Int)>0)] ?_
   refine zF 93 ?_
   refine zE 0 ?_
   refine then_e ?_
   refine round_e ?_
   refine inb_e ?_
   refine DoneM.normal_ [] (s2:=AS.mk [(93,ao false),(60,ao false),(3,AV.addr 3 0),(1,AV.agg [ai x.kind,aw x.num,AV.val (Value.string (ByteArray.mk x.dat.toArray))]),(5,ai (↑(m+(1:Nat)):Int)),(0,AV.addr 1000000000000 0)] [(3,Row.mk 1 false true (List.map (kill0 (3:Nat)) (itmC x))),(1000000000000,Row.mk 1 false true [AV.ref 5,ai (↑(c+(1:Nat)):Int)]),(5,Row.mk 3 true false (encA frmC (List.take (m+(1:Nat)) g)))]) (by kernel_rfl) (C:=[[AV.ref 5,ai (↑(c+(1:Nat)):Int)]= [AV.ref 5,ai (↑(c+(1:Nat)):Int)],encA frmC (List.take (m+(1:Nat)) g)=encA frmC (stF fr x)]) (by kernel_rfl) ⟨rfl,(by rw [hst,popF,←hp,e1]),trivial⟩
end Go.Proofs.YtjgbhhnghedgdaaGreatDoor
