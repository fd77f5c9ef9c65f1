import Derived.Test.YtjgbhhnghedgdaaGreatDoorZsV8
import Derived.Test.YtjgbhhnghedgdaaGreatDoorZsCb3
set_option linter.all false
namespace Go.Proofs.YtjgbhhnghedgdaaGreatDoor
open Go.RowKit
set_option maxRecDepth 100000
set_option maxHeartbeats 4000000
set_option linter.unusedVariables false
def encB (x:Itm):List UInt8:=if x.kind=3∨x.kind=4 then headB (u8 (x.kind-1)) (u64 x.dat.length)++x.dat else headB (u8 (x.kind-1)) x.num
theorem headB_len (m:UInt8) (n:UInt64):(headB m n).length≤9:=by
 unfold headB
 split
 ·simp
 ·split
  ·simp [tlB]
  ·split
   ·simp [tlB]
   ·split<;>simp [tlB]
theorem appitem_retm (o:List UInt8) (x:Itm) (hk:simpleK x.kind) (ho:o.length≤900000) (hd:x.dat.length≤10000):RetM Tryz.prog 128 [.ref 5,.agg (itmC x)] (rowQ o) (.own 1 (bytesA (o++encB x))) (rowQ []):=by
 have hz:(⟨x.dat.toArray⟩:ByteArray).size≤maxLen:=by
  show x.dat.toArray.size≤_
  unfold maxLen
  simp;omega
 rcases hk with h|h|h|h
 ·have e:encB x=headB (u8 (x.kind-1)) x.num:=if_neg (by omega)
  refine RetM.of_fn Tryz.func128 (by kernel_rfl) 46 (by kernel_rfl) (by kernel_rfl) ?_
  refine zQ 1 [{}] [] ?_
  refine zS ?_
  refine zQ 1 [{}] [] ?_
  refine zB 0 ?_
  refine zP 1 [{}] [.keep [7,6,4,3,0,1] [3,5]] [] ?_
  refine zFb 7 (x.kind == (7:Int)) (decide_eq_false (by omega)) ?_
  refine zQ 1 [{}] [] ?_
  refine zFb 16 (x.kind == (8:Int)) (decide_eq_false (by omega)) ?_
  refine zS ?_
  refine zP 1 [{}] [.keep [21,16,7,6,4,3,0,1] [3,5]] [] ?_
  refine zFb 21 (x.kind == (3:Int)) (decide_eq_false (by omega)) ?_
  refine zX {} [] ?_
  refine then_n ?_
  refine zFb 21 (x.kind == (4:Int)) (decide_eq_false (by omega)) ?_
  refine zK ?_
  refine inb_n ?_
  refine then_n ?_
  refine zP 1 [yH [(3,yV (ai (x.kind-1))),(4,yV (ab (u8 (x.kind-1)))),(7,{av:=some (AV.own 1 (bytesA (o++headB (u8 (x.kind-1)) x.num))),ln:=[(5,5)],ho:=[(5,Row.mk 1 true false (bytesA []))]})]] [.keep [4,21,16,7,6,3,1] [45,5,3]] [yN (x.kind-1),yI (avb_conv (x.kind-1)),yB (RetM Tryz.prog (164:Nat) [AV.ref 5,ab (u8 (x.kind-1)),aw x.num] [(5,Row.mk 1 true false (bytesA o))] (AV.own 1 (bytesA (o++headB (u8 (x.kind-1)) x.num))) [(5,Row.mk 1 true false (bytesA []))]) (head_retm (o) (u8 (x.kind-1)) (x.num) (by omega))] ?_
  refine zR ?_
  refine DoneM.ret_ [] (s2:=AS.mk [(4,AV.ref 45),(21,ao (x.kind == (4:Int))),(16,ao (x.kind == (8:Int))),(7,ao (x.kind == (7:Int))),(6,ai x.kind),(3,AV.addr 3 0),(1,AV.agg [ai x.kind,aw x.num,AV.val (Value.string (ByteArray.mk x.dat.toArray))])] [(45,Row.mk 1 true false (bytesA (o++headB (u8 (x.kind-1)) x.num))),(5,Row.mk 1 true false (bytesA [])),(3,Row.mk 1 false true (List.map (kill0 (45:Nat)) (killRow (5:Nat) (Row.mk 1 false true (List.map (kill0 (3:Nat)) (itmC x)))).cells))]) (by kernel_rfl) (C:=[bytesA (o++headB (u8 (x.kind-1)) x.num)=bytesA (o++encB x),bytesA []=bytesA []]) (by kernel_rfl) ⟨(by rw [e]),rfl,trivial⟩
 ·have e:encB x=headB (u8 (x.kind-1)) (u64 x.dat.length)++x.dat:=if_pos (by omega)
  have hl:=headB_len (u8 (x.kind-1)) (u64 x.dat.length)
  have hb:(bytesA (o++headB (u8 (x.kind-1)) (u64 x.dat.length))).length≤900009:=by rw [bytesA_len,List.length_append];omega
  have hb2:(bytesA x.dat.toArray.toList).length≤10000:=by rw [bytesA_len];exact hd
  refine RetM.of_fn Tryz.func128 (by kernel_rfl) 46 (by kernel_rfl) (by kernel_rfl) ?_
  refine zQ 1 [{}] [] ?_
  refine zS ?_
  refine zQ 1 [{}] [] ?_
  refine zB 0 ?_
  refine zP 1 [{}] [.keep [7,6,4,3,0,1] [3,5]] [] ?_
  refine zFb 7 (x.kind == (7:Int)) (decide_eq_false (by omega)) ?_
  refine zQ 1 [{}] [] ?_
  refine zFb 16 (x.kind == (8:Int)) (decide_eq_false (by omega)) ?_
  refine zS ?_
  refine AWP.regsP 1 [{}] [.keep [21,16,7,6,4,3,0,1] [3,5]] (by kernel_rfl) (s':=AS.mk [(21,ao (x.kind == (3:Int))),(16,ao (x.kind == (8:Int))),(7,ao (x.kind == (7:Int))),(6,ai x.kind),(4,AV.nil),(3,AV.addr 3 0),(0,AV.ref 5),(1,AV.agg [ai x.kind,aw x.num,AV.val (Value.string (ByteArray.mk x.dat.toArray))])] [(3,Row.mk 1 false true (List.map (kill0 (3:Nat)) (itmC x))),(5,Row.mk 1 true false (bytesA o))]) (C:=[]) (by kernel_rfl) trivial ?_
  refine zTb 21 (x.kind == (3:Int)) (decide_eq_true (by omega)) ?_
  refine zK ?_
  refine then_n ?_
  refine zTb 21 (x.kind == (3:Int)) (decide_eq_true (by omega)) ?_
  refine zP 2 [yH [(3,yV (ai (x.kind-1))),(4,yV (ab (u8 (x.kind-1)))),(7,yV (ai (↑x.dat.length:Int))),(8,yV (aw (u64 (↑x.dat.length:Int)))),(9,{av:=some (AV.own 1 (bytesA (o++headB (u8 (x.kind-1)) (u64 (↑x.dat.length:Int))))),ln:=[(5,5)],ho:=[(5,Row.mk 1 true false (bytesA []))]})],yH [(3,{av:=some (AV.arr (bytesA (o++headB (u8 (x.kind-1)) (u64 (↑x.dat.length:Int))++x.dat.toArray.toList))),b:=false})]] [.keep [4,21,16,7,6,3,1] [37,5,3]] [yN (x.kind-1),yI (avb_conv (x.kind-1)),yR (ai (↑x.dat.length:Int)),yI (avw_conv ((↑x.dat.length:Int))),yB (RetM Tryz.prog (164:Nat) [AV.ref 5,ab (u8 (x.kind-1)),aw (u64 (↑x.dat.length:Int))] [(5,Row.mk 1 true false (bytesA o))] (AV.own 1 (bytesA (o++headB (u8 (x.kind-1)) (u64 (↑x.dat.length:Int))))) [(5,Row.mk 1 true false (bytesA []))]) (head_retm (o) (u8 (x.kind-1)) (u64 (↑x.dat.length:Int)) (by omega)),yB (bytesA (o++headB (u8 (x.kind-1)) (u64 (↑x.dat.length:Int)))++bytesA x.dat.toArray.toList=bytesA (o++headB (u8 (x.kind-1)) (u64 (↑x.dat.length:Int))++x.dat.toArray.toList)) (bytesA_app _ _),yB (plainR (bytesA x.dat.toArray.toList)) (plainR_bytes _),yO (((bytesA (o++headB (u8 (x.kind-1)) (u64 (↑x.dat.length:Int)))).length+(bytesA x.dat.toArray.toList).length)*(1:Nat)≤(140737488355328:Nat))] ?_
  refine zR ?_
  refine inb_r ?_
  refine then_r ?_
  refine DoneM.ret_ [] (s2:=AS.mk [(4,AV.ref 37),(21,ao (x.kind == (3:Int))),(16,ao (x.kind == (8:Int))),(7,ao (x.kind == (7:Int))),(6,ai x.kind),(3,AV.addr 3 0),(1,AV.agg [ai x.kind,aw x.num,AV.val (Value.string (ByteArray.mk x.dat.toArray))])] [(37,Row.mk 1 true false (bytesA (o++headB (u8 (x.kind-1)) (u64 (↑x.dat.length:Int))++x.dat.toArray.toList))),(5,Row.mk 1 true false (bytesA [])),(3,Row.mk 1 false true (List.map (kill0 (37:Nat)) (killRow (33:Nat) (Row.mk 1 false true (List.map (kill0 (33:Nat)) (killRow (5:Nat) (Row.mk 1 false true (List.map (kill0 (3:Nat)) (itmC x)))).cells))).cells))]) (by kernel_rfl) (C:=[bytesA (o++headB (u8 (x.kind-1)) (u64 (↑x.dat.length:Int))++x.dat.toArray.toList)=bytesA (o++encB x),bytesA []=bytesA []]) (by kernel_rfl) ⟨(by rw [e];simp),rfl,trivial⟩
 ·have e:encB x=headB (u8 (x.kind-1)) (u64 x.dat.length)++x.dat:=if_pos (by omega)
  have hl:=headB_len (u8 (x.kind-1)) (u64 x.dat.length)
  have hb:(bytesA (o++headB (u8 (x.kind-1)) (u64 x.dat.length))).length≤900009:=by rw [bytesA_len,List.length_append];omega
  have hb2:(bytesA x.dat.toArray.toList).length≤10000:=by rw [bytesA_len];exact hd
  refine RetM.of_fn Tryz.func128 (by kernel_rfl) 46 (by kernel_rfl) (by kernel_rfl) ?_
  refine zQ 1 [{}] [] ?_
  refine zS ?_
  refine zQ 1 [{}] [] ?_
  refine zB 0 ?_
  refine zP 1 [{}] [.keep [7,6,4,3,0,1] [3,5]] [] ?_
  refine zFb 7 (x.kind == (7:Int)) (decide_eq_false (by omega)) ?_
  refine zQ 1 [{}] [] ?_
  refine zFb 16 (x.kind == (8:Int)) (decide_eq_false (by omega)) ?_
  refine zS ?_
  refine zP 1 [{}] [.keep [21,16,7,6,4,3,0,1] [3,5]] [] ?_
  refine zFb 21 (x.kind == (3:Int)) (decide_eq_false (by omega)) ?_
  refine zX {} [] ?_
  refine then_n ?_
  refine zTb 21 (x.kind == (4:Int)) (decide_eq_true (by omega)) ?_
  refine zP 2 [yH [(3,yV (ai (x.kind-1))),(4,yV (ab (u8 (x.kind-1)))),(7,yV (ai (↑x.dat.length:Int))),(8,yV (aw (u64 (↑x.dat.length:Int)))),(9,{av:=some (AV.own 1 (bytesA (o++headB (u8 (x.kind-1)) (u64 (↑x.dat.length:Int))))),ln:=[(5,5)],ho:=[(5,Row.mk 1 true false (bytesA []))]})],yH [(3,{av:=some (AV.arr (bytesA (o++headB (u8 (x.kind-1)) (u64 (↑x.dat.length:Int))++x.dat.toArray.toList))),b:=false})]] [.keep [4,21,16,7,6,3,1] [37,5,3]] [yN (x.kind-1),yI (avb_conv (x.kind-1)),yR (ai (↑x.dat.length:Int)),yI (avw_conv ((↑x.dat.length:Int))),yB (RetM Tryz.prog (164:Nat) [AV.ref 5,ab (u8 (x.kind-1)),aw (u64 (↑x.dat.length:Int))] [(5,Row.mk 1 true false (bytesA o))] (AV.own 1 (bytesA (o++headB (u8 (x.kind-1)) (u64 (↑x.dat.length:Int))))) [(5,Row.mk 1 true false (bytesA []))]) (head_retm (o) (u8 (x.kind-1)) (u64 (↑x.dat.length:Int)) (by omega)),yB (bytesA (o++headB (u8 (x.kind-1)) (u64 (↑x.dat.length:Int)))++bytesA x.dat.toArray.toList=bytesA (o++headB (u8 (x.kind-1)) (u64 (↑x.dat.length:Int))++x.dat.toArray.toList)) (bytesA_app _ _),yB (plainR (bytesA x.dat.toArray.toList)) (plainR_bytes _),yO (((bytesA (o++headB (u8 (x.kind-1)) (u64 (↑x.dat.length:Int)))).length+(bytesA x.dat.toArray.toList).length)*(1:Nat)≤(140737488355328:Nat))] ?_
  refine zR ?_
  refine inb_r ?_
  refine then_r ?_
  refine DoneM.ret_ [] (s2:=AS.mk [(4,AV.ref 37),(21,ao (x.kind == (4:Int))),(16,ao (x.kind == (8:Int))),(7,ao (x.kind == (7:Int))),(6,ai x.kind),(3,AV.addr 3 0),(1,AV.agg [ai x.kind,aw x.num,AV.val (Value.string (ByteArray.mk x.dat.toArray))])] [(37,Row.mk 1 true false (bytesA (o++headB (u8 (x.kind-1)) (u64 (↑x.dat.length:Int))++x.dat.toArray.toList))),(5,Row.mk 1 true false (bytesA [])),(3,Row.mk 1 false true (List.map (kill0 (37:Nat)) (killRow (33:Nat) (Row.mk 1 false true (List.map (kill0 (33:Nat)) (killRow (5:Nat) (Row.mk 1 false true (List.map (kill0 (3:Nat)) (itmC x)))).cells))).cells))]) (by kernel_rfl) (C:=[bytesA (o++headB (u8 (x.kind-1)) (u64 (↑x.dat.length:Int))++x.dat.toArray.toList)=bytesA (o++encB x),bytesA []=bytesA []]) (by kernel_rfl) ⟨(by rw [e];simp),rfl,trivial⟩
 ·have e:encB x=headB (u8 (x.kind-1)) x.num:=if_neg (by omega)
  refine RetM.of_fn Tryz.func128 (by kernel_rfl) 46 (by kernel_rfl) (by kernel_rfl) ?_
  refine zQ 1 [{}] [] ?_
  refine zS ?_
  refine zQ 1 [{}] [] ?_
  refine zB 0 ?_
  refine zP 1 [{}] [.keep [7,6,4,3,0,1] [3,5]] [] ?_
  refine zFb 7 (x.kind == (7:Int)) (decide_eq_false (by omega)) ?_
  refine AWP.regsK 1 [{}] (by kernel_rfl) (s':=AS.mk [(16,ao (x.kind == (8:Int))),(17,ao (x.kind == (8:Int))),(7,ao (x.kind == (7:Int))),(6,ai x.kind),(4,AV.nil),(3,AV.addr 3 0),(0,AV.ref 5),(1,AV.agg [ai x.kind,aw x.num,AV.val (Value.string (ByteArray.mk x.dat.toArray))])] [(3,Row.mk 1 false true (List.map (kill0 (3:Nat)) (itmC x))),(5,Row.mk 1 true false (bytesA o))]) (C:=[]) (by kernel_rfl) trivial ?_
  refine zFb 16 (x.kind == (8:Int)) (decide_eq_false (by omega)) ?_
  refine zS ?_
  refine zP 1 [{}] [.keep [21,16,7,6,4,3,0,1] [3,5]] [] ?_
  refine zFb 21 (x.kind == (3:Int)) (decide_eq_false (by omega)) ?_
  refine zX {} [] ?_
  refine then_n ?_
  refine zFb 21 (x.kind == (4:Int)) (decide_eq_false (by omega)) ?_
  refine zK ?_
  refine inb_n ?_
  refine then_n ?_
  refine zP 1 [yH [(3,yV (ai (x.kind-1))),(4,yV (ab (u8 (x.kind-1)))),(7,{av:=some (AV.own 1 (bytesA (o++headB (u8 (x.kind-1)) x.num))),ln:=[(5,5)],ho:=[(5,Row.mk 1 true false (bytesA []))]})]] [.keep [4,21,16,7,6,3,1] [45,5,3]] [yN (x.kind-1),yI (avb_conv (x.kind-1)),yB (RetM Tryz.prog (164:Nat) [AV.ref 5,ab (u8 (x.kind-1)),aw x.num] [(5,Row.mk 1 true false (bytesA o))] (AV.own 1 (bytesA (o++headB (u8 (x.kind-1)) x.num))) [(5,Row.mk 1 true false (bytesA []))]) (head_retm (o) (u8 (x.kind-1)) (x.num) (by omega))] ?_
  refine zR ?_
  refine DoneM.ret_ [] (s2:=AS.mk [(4,AV.ref 45),(21,ao (x.kind == (4:Int))),(16,ao (x.kind == (8:Int))),(7,ao (x.kind == (7:Int))),(6,ai x.kind),(3,AV.addr 3 0),(1,AV.agg [ai x.kind,aw x.num,AV.val (Value.string (ByteArray.mk x.dat.toArray))])] [(45,Row.mk 1 true false (bytesA (o++headB (u8 (x.kind-1)) x.num))),(5,Row.mk 1 true false (bytesA [])),(3,Row.mk 1 false true (List.map (kill0 (45:Nat)) (killRow (5:Nat) (Row.mk 1 false true (List.map (kill0 (3:Nat)) (itmC x)))).cells))]) (by kernel_rfl) (C:=[bytesA (o++headB (u8 (x.kind-1)) x.num)=bytesA (o++encB x),bytesA []=bytesA []]) (by kernel_rfl) ⟨(by rw [e]),rfl,trivial⟩
def encL (l:List Itm):List UInt8:=l.flatMap encB
def encD (l:List Itm):List UInt8:=if vldE l=0 then encL l else []
theorem encB_len (x:Itm):(encB x).length≤9+x.dat.length:=by
 unfold encB
 split
 ·have:=headB_len (u8 (x.kind-1)) (u64 x.dat.length)
  rw [List.length_append];omega
 ·have:=headB_len (u8 (x.kind-1)) x.num
  omega
theorem encL_len:∀ {l:List Itm} {n:Nat},(∀x∈l,x.dat.length≤10000)->l.length≤n->(encL l).length≤10009*n
 | [],n,_,_=>Nat.zero_le _
 | x::l,n,h,hn=>by
  have ih:=encL_len (l:=l) (n:=n-1) (fun y hy=>h y (by simp [hy])) (by simp at hn;omega)
  have h1:=encB_len x
  have h2:=h x (by simp)
  simp only [List.length_cons] at hn
  show (encB x++encL l).length≤_
  rw [List.length_append];omega
theorem encode_ret (l:List Itm) (hl:l.length≤50) (hk:∀x∈l,simpleK x.kind) (hd:∀x∈l,x.dat.length≤10000):Ret Tryz.prog 77 [.sl 3 (encA itmC l)] (.tup [.own 1 (bytesA (encD l)),ai (vldE l)]):=by
 have hll:(encA itmC l).length=l.length*3:=encA_len (e:=3) (fun _=>rfl) ..
 have hd2:∀x∈l,x.dat.length≤1000000:=fun x hx=>by have:=hd x hx;omega
 by_cases h:vldE l=0
 case neg =>
  have e:encD l= []:=if_neg h
  refine zO Tryz.func77 24 ?_
  refine zQ 1 [{}] [] ?_
  refine zS ?_
  refine zP 2 [yH [(1,yV (ai (vldE l)))],yH [(1,yV (ao true))]] [.keep [11,4,3,2,0] []] [yI (validate_ret l (by omega) (by assumption) (by assumption)),yB (ao (vldE l != (0:Int))=ao true) (by simp [h])] ?_
  refine zT 11 ?_
  refine zQ 1 [{}] [] ?_
  refine zR ?_
  refine then_r ?_
  refine zV [yB (bytesA (encD l)= []) (by rw [e];rfl),yR (Value.int .i64 (vldE l))]
 have e:encD l=encL l:=if_pos h
 refine zO Tryz.func77 24 ?_
 refine zQ 1 [{}] [] ?_
 refine zS ?_
 refine zP 2 [yH [(1,yV (ai (vldE l)))],yH [(1,yV (ao false))]] [.keep [11,4,3,2,0] []] [yI (validate_ret l (by omega) (by assumption) (by assumption)),yB (ao (vldE l != (0:Int))=ao false) (by simp [h])] ?_
 refine zF 11 ?_
 refine zK ?_
 refine then_n ?_
 refine zQ 1 [{}] [] ?_
 refine zS ?_
 refine zQ 1 [yH [(1,{k:=l.length})]] [yB ((encA itmC l).length=l.length*(3:Nat)) (by assumption)] ?_
 refine zB 0 ?_
 refine zL (fun (i:Nat)=>(⟨[(14,ai (↑l.length:Int)),(13,AV.sl 3 (encA itmC l)),(11,ao false),(4,ai (vldE l)),(3,ai 0),(2,AV.nil),(0,AV.sl 3 (encA itmC l)),(15,ai i),(5,AV.ref 21)],[(21,⟨1,true,false,bytesA (encL (l.take i))⟩)]⟩:AS)) (fun i=>(i≤l.length)) (fun i=>(l.length-i)) (0) ?_ (zW [.nil 5 21 1,.keep [14,13,11,4,3,2,0,15,5] [21]]) ?_
 ·omega
 intro i hi
 have hel:(encL (l.take i)).length≤10009*i:=encL_len (fun x hx=>hd x (List.mem_of_mem_take hx)) (by rw [List.length_take];omega)
 refine zQ 1 [{}] [] ?_
 refine zS ?_
 refine zD 16 ((↑i:Int)<(↑l.length:Int)) (fun h2=>?_) (fun h2=>?_)
 ·have hi2:i<l.length:=by omega
  have hm:l.getD i default∈l:=by rw [List.getD_eq_getElem?_getD,List.getElem?_eq_getElem hi2];exact List.getElem_mem hi2
  have hkx:=hk _ hm
  have hdx:=hd _ hm
  have es:encL (l.take i)++encB (l.getD i default)=encL (l.take (i+1)):=by
   rw [List.take_succ_eq_append_getElem hi2]
   unfold encL
   rw [List.flatMap_append,List.getD_eq_getElem?_getD,List.getElem?_eq_getElem hi2]
   simp
  refine zK ?_
  refine then_n ?_
  refine zS ?_
  refine zB 1 ?_
  refine zP 1 [yH [(0,{k:=i}),(1,yV (AV.agg [ai ((l.getD i default).kind),aw ((l.getD i default).num),AV.val (Value.string (ByteArray.mk (l.getD i default).dat.toArray))]))]] [.keep [7,16,14,13,11,4,3,2,0,15,5] [7,21]] [yR (↑i:Int),yO (i*(3:Nat)<(encA itmC l).length),yB (List.take 3 (List.drop (i*(3:Nat)) (encA itmC l))= [ai ((l.getD i default).kind),aw ((l.getD i default).num),AV.val (Value.string (ByteArray.mk (l.getD i default).dat.toArray))]) (encA_sub (f:=itmC) (e:=3) (k:=i) (j:=0) (fun _=>rfl) (by omega) (by decide) rfl),yR (3:Nat),yL 3 3] ?_
  refine zX (yH [(2,{av:=some (AV.own 1 (bytesA (encL (List.take i l)++encB (l.getD i default)))),ln:=[(21,5)],ho:=[(5,Row.mk 1 true false (bytesA []))]})]) [yB (RetM Tryz.prog (128:Nat) [AV.ref 5,AV.agg [ai ((l.getD i default).kind),aw ((l.getD i default).num),AV.val (Value.string (ByteArray.mk (l.getD i default).dat.toArray))]] [(5,Row.mk 1 true false (bytesA (encL (List.take i l))))] (AV.own 1 (bytesA (encL (List.take i l)++encB (l.getD i default)))) [(5,Row.mk 1 true false (bytesA []))]) (appitem_retm (encL (List.take i l)) (l.getD i default) (by assumption) (by omega) (by assumption))] ?_
  refine inb_n ?_
  refine then_n ?_
  refine zX (yH [(0,yV (ai ((↑i:Int)+1)))]) [yN ((↑i:Int)+1)] ?_
  refine round_n (i+1) (by assumption) (by omega) (Weaks.of [.keep [14,13,11,4,3,2,0,15,5] [21]] (s1:=AS.mk [(14,ai (↑l.length:Int)),(13,AV.sl 3 (encA itmC l)),(11,ao false),(4,ai (vldE l)),(3,ai 0),(2,AV.nil),(0,AV.sl 3 (encA itmC l)),(15,ai ((↑i:Int)+1)),(5,AV.ref 21)] [(21,Row.mk 1 true false (bytesA (encL (List.take i l)++encB (l.getD i default))))]) (by kernel_rfl) (as_eq (f_cons rfl (f_cons rfl (f_cons rfl (f_cons rfl (f_cons rfl (f_cons rfl (f_cons rfl (f_cons rfl (f_cons rfl rfl))))))))) (h_cons (congrArg bytesA es) rfl)))
 ·have e2:i=l.length:=by omega
  subst e2
  refine zE 0 ?_
  refine then_e ?_
  refine round_e ?_
  refine inb_e ?_
  refine then_n ?_
  refine zQ 1 [{}] [] ?_
  refine zR ?_
  refine zV [yB (bytesA (encL (List.take l.length l))=bytesA (encD l)) (by rw [e,List.take_length]),yJ 0 (vldE l) (by rw [h])]
end Go.Proofs.YtjgbhhnghedgdaaGreatDoor
