import Derived.Test.YtjgbhhnghedgdaaGreatDoorZsV8
import Derived.Test.YtjgbhhnghedgdaaGreatDoorZsRec2
set_option linter.all false
namespace Go.Proofs.YtjgbhhnghedgdaaGreatDoor
open Go.RowKit
set_option maxRecDepth 100000
set_option maxHeartbeats 4000000
set_option linter.unusedVariables false
instance:Inhabited Vot:=⟨⟨[],0,[],[]⟩⟩
def grpM (g:Grp):List AV:=[ai g.epoch,aw g.head,ai g.thr,.own 4 (encA memC g.mems),.sl 7 (encA depC g.deps)]
def addG (g:Grp) (e:Ent):Grp:=⟨g.epoch,g.head,if 2*g.thr≤g.mems.length+1 then g.thr+1 else g.thr,g.mems++ [⟨e.name,e.kh,e.kr,0⟩],g.deps⟩
theorem add_ret (g:Grp) (e:Ent) (hno:memI g.mems e.name= -1) (h0:0<g.mems.length) (h8:g.mems.length<8) (t0:0≤g.thr) (t1:g.thr≤8):Ret Tryz.prog 105 [.agg (grpC g),.agg (entC e)] (.tup [.agg (grpM (addG g e)),ai 0]):=by
 have hml:(encA memC g.mems).length=g.mems.length*4:=encA_len (e:=4) (fun _=>rfl) ..
 have hcl:=clip_ret (encA memC g.mems)
 have hl:(addG g e).mems=g.mems++ [⟨e.name,e.kh,e.kr,0⟩]:=rfl
 have hs:=encA_snoc (f:=memC) g.mems ⟨e.name,e.kh,e.kr,0⟩
 by_cases c:2*g.thr≤g.mems.length+1
 ·have ht:(addG g e).thr=g.thr+1:=if_pos c
  refine zO Tryz.func105 41 ?_
  refine zP 2 [{},yH [(2,{k:=g.mems.length})]] [.keep [6,5,4,3,2,0,1] [4,3,2]] [yB ((encA memC g.mems).length=g.mems.length*(4:Nat)) (by assumption)] ?_
  refine zS ?_
  refine zP 1 [yH [(3,yV (ai (memI g.mems e.name)))]] [.keep [14,6,5,4,3,2,0,1] [4,3,2]] [yI (gmem_ret g e.name (by omega))] ?_
  refine zFd 14 (memI g.mems e.name≥0) ?_
  refine zK ?_
  refine then_n ?_
  refine zS ?_
  refine zQ 1 [{}] [] ?_
  refine zFd 17 ((↑g.mems.length:Int)≥8) ?_
  refine zK ?_
  refine then_n ?_
  refine zP 1 [{hs:=[(2,{av:=some (AV.ful (4:Nat) (encA memC g.mems)),b:=false})],T:=9}] [.keep [17,14,6,5,4,3,2,0,1] [2,28,4,3]] [yI (clip_ret (encA memC g.mems)),yO (((encA memC g.mems).length+(4:Nat))*(40:Nat)≤(562949953421312:Nat)),yB ((0:Nat)<(4:Nat)) (Nat.le_of_ble_eq_true rfl),yB ((4:Nat)≤(List.map (kill0 (28:Nat)) (List.map (kill0 (4:Nat)) (List.map (kill0 (3:Nat)) (List.map (kill0 (2:Nat)) (grpC g))))).length) (Nat.le_of_ble_eq_true rfl)] ?_
  refine zS ?_
  refine zP 1 [yH [(2,yV (ai ((2:Int)*g.thr))),(4,yV (ai ((↑g.mems.length:Int)+1)))]] [.keep [35,17,14,6,5,4,3,2,0,1] [2,28,4,3]] [yN ((2:Int)*g.thr),yN ((↑g.mems.length:Int)+1)] ?_
  refine zTd 35 ((2:Int)*g.thr≤(↑g.mems.length:Int)+1) ?_
  refine zX (yH [(2,yV (ai (g.thr+1)))]) [yN (g.thr+1),yB ((3:Nat)≤((List.map (kill0 (28:Nat)) (List.map (kill0 (4:Nat)) (List.map (kill0 (3:Nat)) (List.map (kill0 (2:Nat)) (grpC g))))).set (3:Nat) (opd (AS.mk [(29,AV.addr 2 3),(28,AV.ref 28),(19,AV.addr 2 3),(20,AV.sl 4 (encA memC g.mems)),(21,AV.ful (4:Nat) (encA memC g.mems)),(22,AV.addr 3 3),(23,AV.val (Value.string (ByteArray.mk e.name.toArray))),(24,AV.addr 3 4),(25,AV.agg [ai e.kh,aw e.kr]),(26,AV.agg [AV.val (Value.string (ByteArray.mk e.name.toArray)),ai e.kh,aw e.kr,au0]),(27,AV.sl 4 [AV.val (Value.string (ByteArray.mk e.name.toArray)),ai e.kh,aw e.kr,au0]),(17,ao (decide ((↑g.mems.length:Int)≥8))),(16,ai (↑g.mems.length:Int)),(14,ao (decide (memI g.mems e.name≥0))),(6,ai (↑g.mems.length:Int)),(5,ai 0),(4,AV.addr 4 0),(3,AV.addr 3 0),(2,AV.addr 2 0),(0,AV.agg [ai g.epoch,aw g.head,ai g.thr,AV.sl 4 (encA memC g.mems),AV.sl 7 (encA depC g.deps)]),(1,AV.agg [ai e.epoch,aw e.prev,ai e.kind,AV.val (Value.string (ByteArray.mk e.name.toArray)),ai e.kh,aw e.kr,ai e.thr,aw e.dep.pub,aw e.dep.peer,AV.sl 1 (bytesA e.dep.box),AV.sl 1 (encA strC e.dep.holders),AV.sl 1 (wordsA e.dep.digests),ai e.dep.need,aw e.dep.target,aw e.pub,aw e.target,AV.sl 4 (encA votC e.votes)])] [(28,Row.mk 4 true false (encA memC g.mems++ [AV.val (Value.string (ByteArray.mk e.name.toArray)),ai e.kh,aw e.kr,au0])),(4,Row.mk 1 false true [ai 0,au0,ai 0,AV.nil,AV.nil]),(3,Row.mk 1 false true [ai e.epoch,aw e.prev,ai e.kind,AV.val (Value.string (ByteArray.mk e.name.toArray)),ai e.kh,aw e.kr,ai e.thr,aw e.dep.pub,aw e.dep.peer,AV.sl 1 (bytesA e.dep.box),AV.sl 1 (encA strC e.dep.holders),AV.sl 1 (wordsA e.dep.digests),ai e.dep.need,aw e.dep.target,aw e.pub,aw e.target,AV.sl 4 (encA votC e.votes)]),(2,Row.mk 1 false true (List.map (kill0 (28:Nat)) (List.map (kill0 (4:Nat)) (List.map (kill0 (3:Nat)) (List.map (kill0 (2:Nat)) (grpC g))))))]) (Operand.tmp (28:Nat)))).length) (Nat.le_of_ble_eq_true rfl)] ?_
  refine then_n ?_
  refine zP 1 [{}] [.keep [5,35,17,14,6,4,3,2,0,1] [4,2,28,3]] [yL 5 5] ?_
  refine zR ?_
  refine zV [yR (Value.int .i64 g.epoch),yR (Value.int .u64 (wv g.head)),yJ (g.thr+1) ((addG g e).thr) (by rw [ht]),yB (encA memC g.mems++ [AV.val (Value.string (ByteArray.mk e.name.toArray)),ai e.kh,aw e.kr,au0]=encA memC (addG g e).mems) (by assumption),yR (encA depC g.deps),yR (Value.int .i64 0)]
 ·have ht:(addG g e).thr=g.thr:=if_neg c
  refine zO Tryz.func105 41 ?_
  refine zP 2 [{},yH [(2,{k:=g.mems.length})]] [.keep [6,5,4,3,2,0,1] [4,3,2]] [yB ((encA memC g.mems).length=g.mems.length*(4:Nat)) (by assumption)] ?_
  refine zS ?_
  refine zP 1 [yH [(3,yV (ai (memI g.mems e.name)))]] [.keep [14,6,5,4,3,2,0,1] [4,3,2]] [yI (gmem_ret g e.name (by omega))] ?_
  refine zFd 14 (memI g.mems e.name≥0) ?_
  refine zK ?_
  refine then_n ?_
  refine zS ?_
  refine zQ 1 [{}] [] ?_
  refine zFd 17 ((↑g.mems.length:Int)≥8) ?_
  refine zK ?_
  refine then_n ?_
  refine zP 1 [{hs:=[(2,{av:=some (AV.ful (4:Nat) (encA memC g.mems)),b:=false})],T:=9}] [.keep [17,14,6,5,4,3,2,0,1] [2,28,4,3]] [yI (clip_ret (encA memC g.mems)),yO (((encA memC g.mems).length+(4:Nat))*(40:Nat)≤(562949953421312:Nat)),yB ((0:Nat)<(4:Nat)) (Nat.le_of_ble_eq_true rfl),yB ((4:Nat)≤(List.map (kill0 (28:Nat)) (List.map (kill0 (4:Nat)) (List.map (kill0 (3:Nat)) (List.map (kill0 (2:Nat)) (grpC g))))).length) (Nat.le_of_ble_eq_true rfl)] ?_
  refine zS ?_
  refine AWP.regsP 1 [{hs:=[(2,{av:=some (ai ((2:Int)*g.thr))}),(4,{av:=some (ai ((↑g.mems.length:Int)+1))})]}] [.keep [35,17,14,6,5,4,3,2,0,1] [2,28,4,3]] (by kernel_rfl) (s':=AS.mk [(35,ao (decide ((2:Int)*g.thr≤(↑g.mems.length:Int)+1))),(17,ao (decide ((↑g.mems.length:Int)≥8))),(14,ao (decide (memI g.mems e.name≥0))),(6,ai (↑g.mems.length:Int)),(5,ai 0),(4,AV.addr 4 0),(3,AV.addr 3 0),(2,AV.addr 2 0),(0,AV.agg [ai g.epoch,aw g.head,ai g.thr,AV.sl 4 (encA memC g.mems),AV.sl 7 (encA depC g.deps)]),(1,AV.agg [ai e.epoch,aw e.prev,ai e.kind,AV.val (Value.string (ByteArray.mk e.name.toArray)),ai e.kh,aw e.kr,ai e.thr,aw e.dep.pub,aw e.dep.peer,AV.sl 1 (bytesA e.dep.box),AV.sl 1 (encA strC e.dep.holders),AV.sl 1 (wordsA e.dep.digests),ai e.dep.need,aw e.dep.target,aw e.pub,aw e.target,AV.sl 4 (encA votC e.votes)])] [(2,Row.mk 1 false true ((List.map (kill0 (28:Nat)) (List.map (kill0 (4:Nat)) (List.map (kill0 (3:Nat)) (List.map (kill0 (2:Nat)) (grpC g))))).set (3:Nat) (opd (AS.mk [(29,AV.addr 2 3),(28,AV.ref 28),(19,AV.addr 2 3),(20,AV.sl 4 (encA memC g.mems)),(21,AV.ful (4:Nat) (encA memC g.mems)),(22,AV.addr 3 3),(23,AV.val (Value.string (ByteArray.mk e.name.toArray))),(24,AV.addr 3 4),(25,AV.agg [ai e.kh,aw e.kr]),(26,AV.agg [AV.val (Value.string (ByteArray.mk e.name.toArray)),ai e.kh,aw e.kr,au0]),(27,AV.sl 4 [AV.val (Value.string (ByteArray.mk e.name.toArray)),ai e.kh,aw e.kr,au0]),(17,ao (decide ((↑g.mems.length:Int)≥8))),(16,ai (↑g.mems.length:Int)),(14,ao (decide (memI g.mems e.name≥0))),(6,ai (↑g.mems.length:Int)),(5,ai 0),(4,AV.addr 4 0),(3,AV.addr 3 0),(2,AV.addr 2 0),(0,AV.agg [ai g.epoch,aw g.head,ai g.thr,AV.sl 4 (encA memC g.mems),AV.sl 7 (encA depC g.deps)]),(1,AV.agg [ai e.epoch,aw e.prev,ai e.kind,AV.val (Value.string (ByteArray.mk e.name.toArray)),ai e.kh,aw e.kr,ai e.thr,aw e.dep.pub,aw e.dep.peer,AV.sl 1 (bytesA e.dep.box),AV.sl 1 (encA strC e.dep.holders),AV.sl 1 (wordsA e.dep.digests),ai e.dep.need,aw e.dep.target,aw e.pub,aw e.target,AV.sl 4 (encA votC e.votes)])] [(28,Row.mk 4 true false (encA memC g.mems++ [AV.val (Value.string (ByteArray.mk e.name.toArray)),ai e.kh,aw e.kr,au0])),(4,Row.mk 1 false true [ai 0,au0,ai 0,AV.nil,AV.nil]),(3,Row.mk 1 false true [ai e.epoch,aw e.prev,ai e.kind,AV.val (Value.string (ByteArray.mk e.name.toArray)),ai e.kh,aw e.kr,ai e.thr,aw e.dep.pub,aw e.dep.peer,AV.sl 1 (bytesA e.dep.box),AV.sl 1 (encA strC e.dep.holders),AV.sl 1 (wordsA e.dep.digests),ai e.dep.need,aw e.dep.target,aw e.pub,aw e.target,AV.sl 4 (encA votC e.votes)]),(2,Row.mk 1 false true (List.map (kill0 (28:Nat)) (List.map (kill0 (4:Nat)) (List.map (kill0 (3:Nat)) (List.map (kill0 (2:Nat)) (grpC g))))))]) (Operand.tmp (28:Nat))))),(28,Row.mk 4 true false (encA memC g.mems++ [AV.val (Value.string (ByteArray.mk e.name.toArray)),ai e.kh,aw e.kr,au0])),(4,Row.mk 1 false true [ai 0,au0,ai 0,AV.nil,AV.nil]),(3,Row.mk 1 false true [ai e.epoch,aw e.prev,ai e.kind,AV.val (Value.string (ByteArray.mk e.name.toArray)),ai e.kh,aw e.kr,ai e.thr,aw e.dep.pub,aw e.dep.peer,AV.sl 1 (bytesA e.dep.box),AV.sl 1 (encA strC e.dep.holders),AV.sl 1 (wordsA e.dep.digests),ai e.dep.need,aw e.dep.target,aw e.pub,aw e.target,AV.sl 4 (encA votC e.votes)])]) (C:=[ai (IntKind.i64.wrap ((2:Int)*g.thr))=ai ((2:Int)*g.thr),ai (IntKind.i64.wrap ((↑g.mems.length:Int)+1))=ai ((↑g.mems.length:Int)+1)]) (by kernel_rfl) ⟨(av_i64 (by omega) (by omega)),(av_i64 (by omega) (by omega)),trivial⟩ ?_
  refine zFd 35 ((2:Int)*g.thr≤(↑g.mems.length:Int)+1) ?_
  refine zK ?_
  refine then_n ?_
  refine zP 1 [{}] [.keep [5,35,17,14,6,4,3,2,0,1] [4,2,28,3]] [yL 5 5] ?_
  refine zR ?_
  refine zV [yR (Value.int .i64 g.epoch),yR (Value.int .u64 (wv g.head)),yJ g.thr ((addG g e).thr) (by rw [ht]),yB (encA memC g.mems++ [AV.val (Value.string (ByteArray.mk e.name.toArray)),ai e.kh,aw e.kr,au0]=encA memC (addG g e).mems) (by assumption),yR (encA depC g.deps),yR (Value.int .i64 0)]
theorem change_ret (g:Grp) (e:Ent) (hk:e.kind=1) (hno:memI g.mems e.name= -1) (h0:0<g.mems.length) (h8:g.mems.length<8) (t0:0≤g.thr) (t1:g.thr≤8):Ret Tryz.prog 59 [.agg (grpC g),.agg (entC e)] (.tup [.agg (grpM (addG g e)),ai 0]):=by
 refine zO Tryz.func59 80 ?_
 refine zQ 1 [{}] [] ?_
 refine zS ?_
 refine zQ 1 [{}] [] ?_
 refine zB 0 ?_
 refine zP 1 [{}] [.keep [10,9,5,4,3,2,0,1] [4,3,2]] [] ?_
 refine zTb 10 (e.kind == (1:Int)) (decide_eq_true (by omega)) ?_
 refine zP 1 [yH [(2,{av:=some (AV.tup [AV.agg [ai ((addG g e).epoch),aw ((addG g e).head),ai ((addG g e).thr),AV.own 4 (encA memC (addG g e).mems),AV.sl 7 (encA depC (addG g e).deps)],ai 0]),b:=false})]] [.keep [5,10,9,4,3,2,0,1] [4,401014,3,2]] [yI (add_ret g e (by assumption) (by assumption) (by assumption) (by assumption) (by assumption)),yL 5 5] ?_
 refine zR ?_
 refine inb_r ?_
 refine then_r ?_
 refine zV [yR (Value.int .i64 (addG g e).epoch),yR (Value.int .u64 (wv (addG g e).head)),yR (Value.int .i64 (addG g e).thr),yR (encA memC (addG g e).mems),yR (encA depC (addG g e).deps),yR (Value.int .i64 0)]
theorem applyQ_ret (g:Grp) (e:Ent) (W:UInt64) (c:Int) (hw:Ret Tryz.prog 50 [.agg (entC e)] (.tup [aw W,ai 0])) (hc:Ret Tryz.prog 58 [.agg (grpC g),.sl 4 (encA votC e.votes),aw W] (ai c)) (hc0:c≠0) (he:g.epoch=e.epoch-1) (e1:1≤e.epoch) (e2:e.epoch≤2147483647) (hp:e.prev=g.head):Ret Tryz.prog 30 [.agg (grpC g),.agg (entC e)] (.tup [.agg (grpC g),ai c]):=by
 refine zO Tryz.func30 92 ?_
 refine zP 2 [{},yH [(1,yV (AV.tup [aw W,ai 0]))]] [.keep [7,6,5,4,3,2,0,1] [4,3,2]] [yB (Ret Tryz.prog (50:Nat) [AV.agg [ai e.epoch,aw e.prev,ai e.kind,AV.val (Value.string (ByteArray.mk e.name.toArray)),ai e.kh,aw e.kr,ai e.thr,aw e.dep.pub,aw e.dep.peer,AV.sl 1 (bytesA e.dep.box),AV.sl 1 (encA strC e.dep.holders),AV.sl 1 (wordsA e.dep.digests),ai e.dep.need,aw e.dep.target,aw e.pub,aw e.target,AV.sl 4 (encA votC e.votes)]] (AV.tup [aw W,ai 0])) (hw)] ?_
 refine zS ?_
 refine zQ 1 [{}] [] ?_
 refine zFb 19 ((0:Int) != (0:Int)) rfl ?_
 refine zK ?_
 refine then_n ?_
 refine zS ?_
 refine zP 1 [yH [(2,yV (ai (e.epoch-1))),(7,{g:=false}),(8,{g:=false}),(9,{g:=false}),(10,{g:=false}),(11,{av:=some (ao (e.prev != g.head)),g:=false}),(12,{b:=false})]] [.keep [34,19,7,6,5,4,3,2,0,1] [4,3,2]] [yN (e.epoch-1),yB ((e.epoch-1 != g.epoch)=false) (by simp_all),yB ((e.epoch-1 != g.epoch)=false) (by simp_all),yB ((e.epoch-1 != g.epoch)=false) (by simp_all),yB ((e.epoch-1 != g.epoch)=false) (by simp_all),yB ((e.epoch-1 != g.epoch)=false) (by simp_all),yB (ao (wv e.prev != wv g.head)=ao (e.prev != g.head)) (by simp_all),yB ((e.epoch-1 != g.epoch)=false) (by simp_all)] ?_
 refine zFb 34 (e.prev != g.head) (by simp_all) ?_
 refine zK ?_
 refine then_n ?_
 refine zS ?_
 refine zP 2 [yH [(4,yV (ai c))],{}] [.keep [42,41,8,34,19,7,6,5,4,3,2,0,1] [4,3,2]] [yB (Ret Tryz.prog (58:Nat) [AV.agg [ai g.epoch,aw g.head,ai g.thr,AV.sl 4 (encA memC g.mems),AV.sl 7 (encA depC g.deps)],AV.sl 4 (encA votC e.votes),aw W] (ai c)) (hc)] ?_
 refine zTb 42 (c != (0:Int)) (by simp_all) ?_
 refine zP 1 [{}] [.keep [5,42,41,8,34,19,7,6,4,3,2,0,1] [4,3,2]] [yL 5 5] ?_
 refine zR ?_
 refine then_r ?_
 refine zV [yR (Value.int .i64 g.epoch),yR (Value.int .u64 (wv g.head)),yR (Value.int .i64 g.thr),yR (encA memC g.mems),yR (encA depC g.deps),yR (Value.int .i64 c)]
theorem mems_set {l:List Mem} {k:Nat} (hk:k<l.length) (u:UInt64):(encA memC l).set (k*4+3) (aw u)=encA memC (l.set k {l.getD k default with used:=u}):=by
 induction l generalizing k with
 | nil=>cases hk
 | cons m l ih =>
  cases k with
  | zero=>rfl
  | succ k =>
   have:=ih (k:=k) (by simpa using hk)
   rw [show (k+1)*4+3=k*4+3+4 by omega]
   show memC m++(encA memC l).set (k*4+3) (aw u)=memC m++encA memC (l.set k {l.getD k default with used:=u})
   rw [this]
def useM (m:Mem) (v:Vot):Mem:={m with used:=m.used|||((1:UInt64)<<<UInt64.ofNat v.leaf.toNat)}
def appG (g:Grp) (e:Ent) (W:UInt64) (v:Vot) (k:Nat):Grp:=⟨e.epoch,W,(addG g e).thr,(addG g e).mems.set k (useM ((addG g e).mems.getD k default) v),g.deps⟩
theorem applyA_ret (g:Grp) (e:Ent) (W:UInt64) (v:Vot) (k:Nat) (hv:e.votes= [v]) (hw:Ret Tryz.prog 50 [.agg (entC e)] (.tup [aw W,ai 0])) (hV:Votes g W v k) (hk2:memI (addG g e).mems v.name=k) (hk3:k<(addG g e).mems.length) (hq:g.thr≤1) (he:g.epoch=e.epoch-1) (e1:1≤e.epoch) (e2:e.epoch≤2147483647) (hp:e.prev=g.head)
  (hk:e.kind=1) (hno:memI g.mems e.name= -1) (h0:0<g.mems.length) (h8:g.mems.length<8) (t0:0≤g.thr):Ret Tryz.prog 30 [.agg (grpC g),.agg (entC e)] (.tup [.agg (grpM (appG g e W v k)),ai 0]):=by
 have hc:=chkv1_ret g W v k hV (by omega)
 rw [show quoE 1 g=0 by unfold quoE;rw [if_neg (by omega)],←hv] at hc
 have hch:=change_ret g e hk hno h0 h8 t0 (by omega)
 have hvl:(encA votC e.votes).length=4:=by rw [hv];rfl
 have hal:(addG g e).mems.length=g.mems.length+1:=by simp [addG]
 have hml:(encA memC (addG g e).mems).length=(g.mems.length+1)*4:=by rw [encA_len (e:=4) (fun _=>rfl),hal]
 obtain ⟨ups,hu⟩:∃f:Nat->List Mem,f=fun i=>if i=0 then (addG g e).mems else (appG g e W v k).mems:=⟨_,rfl⟩
 have hu0:ups 0=(addG g e).mems:=by rw [hu];rfl
 have hu1:ups 1=(appG g e W v k).mems:=by rw [hu];rfl
 have hv0:e.votes.getD 0 default=v:=by rw [hv];rfl
 have hvn:e.votes.length=1:=by rw [hv];rfl
 have hul:(ups 0).length=g.mems.length+1:=by rw [hu0,hal]
 have hgm:Ret Tryz.prog 61 [.agg (grpC ⟨e.epoch,W,(addG g e).thr,ups 0,(addG g e).deps⟩),as_ v.name] (ai k):=by
  have:=gmem_ret ⟨e.epoch,W,(addG g e).thr,ups 0,(addG g e).deps⟩ v.name (by show (ups 0).length≤_;omega)
  rwa [show memI (Grp.mems ⟨e.epoch,W,(addG g e).thr,ups 0,(addG g e).deps⟩) v.name=k by show memI (ups 0) v.name=k;rw [hu0,hk2]] at this
 subst hv0
 have h4:=hV.l0
 have h5:=hV.l1
 refine zO Tryz.func30 92 ?_
 refine zP 2 [{},yH [(1,yV (AV.tup [aw W,ai 0]))]] [.keep [7,6,5,4,3,2,0,1] [4,3,2]] [yB (Ret Tryz.prog (50:Nat) [AV.agg [ai e.epoch,aw e.prev,ai e.kind,AV.val (Value.string (ByteArray.mk e.name.toArray)),ai e.kh,aw e.kr,ai e.thr,aw e.dep.pub,aw e.dep.peer,AV.sl 1 (bytesA e.dep.box),AV.sl 1 (encA strC e.dep.holders),AV.sl 1 (wordsA e.dep.digests),ai e.dep.need,aw e.dep.target,aw e.pub,aw e.target,AV.sl 4 (encA votC e.votes)]] (AV.tup [aw W,ai 0])) (hw)] ?_
 refine zS ?_
 refine zQ 1 [{}] [] ?_
 refine zFb 19 ((0:Int) != (0:Int)) rfl ?_
 refine zK ?_
 refine then_n ?_
 refine zS ?_
 refine zP 1 [yH [(2,yV (ai (e.epoch-1))),(7,{g:=false}),(8,{g:=false}),(9,{g:=false}),(10,{g:=false}),(11,{av:=some (ao (e.prev != g.head)),g:=false}),(12,{b:=false})]] [.keep [34,19,7,6,5,4,3,2,0,1] [4,3,2]] [yN (e.epoch-1),yB ((e.epoch-1 != g.epoch)=false) (by simp;omega),yB ((e.epoch-1 != g.epoch)=false) (by simp;omega),yB ((e.epoch-1 != g.epoch)=false) (by simp;omega),yB ((e.epoch-1 != g.epoch)=false) (by simp;omega),yB ((e.epoch-1 != g.epoch)=false) (by simp;omega),yI (avw_ne e.prev g.head),yB ((e.epoch-1 != g.epoch)=false) (by simp;omega)] ?_
 refine zFb 34 (e.prev != g.head) (by simp;omega) ?_
 refine zK ?_
 refine then_n ?_
 refine zS ?_
 refine zP 2 [yH [(4,yV (ai 0))],{}] [.keep [42,41,8,34,19,7,6,5,4,3,2,0,1] [4,3,2]] [yB (Ret Tryz.prog (58:Nat) [AV.agg [ai g.epoch,aw g.head,ai g.thr,AV.sl 4 (encA memC g.mems),AV.sl 7 (encA depC g.deps)],AV.sl 4 (encA votC e.votes),aw W] (ai 0)) (hc)] ?_
 refine zFb 42 ((0:Int) != (0:Int)) rfl ?_
 refine zK ?_
 refine then_n ?_
 refine zP 1 [yH [(2,{av:=some (AV.tup [AV.agg [ai ((addG g e).epoch),aw ((addG g e).head),ai ((addG g e).thr),AV.own 4 (encA memC (addG g e).mems),AV.sl 7 (encA depC (addG g e).deps)],ai 0]),b:=false})]] [.keep [7,9,42,41,8,34,19,6,5,4,3,2,0,1] [9,401048,4,3,2]] [yI (change_ret g e (by assumption) (by assumption) (by assumption) (by assumption) (by assumption) (by omega)),yL 5 5] ?_
 refine zS ?_
 refine zQ 1 [{}] [] ?_
 refine zFb 52 ((0:Int) != (0:Int)) rfl ?_
 refine zK ?_
 refine then_n ?_
 refine zP 3 [{},{},yH [(2,{av:=some (AV.own 4 (encA memC (addG g e).mems)),b:=false})]] [.keep [52,7,9,42,41,8,34,19,6,5,4,3,2,0,1] [9,62,4,3,2]] [yL 1 5,yL 2 5,yI (mclone_ret ((addG g e).mems) (by omega)),yL 4 5] ?_
 refine zS ?_
 refine zQ 1 [yH [(2,{k:=e.votes.length})]] [yO ((encA votC e.votes).length=e.votes.length*(4:Nat))] ?_
 refine zB 0 ?_
 refine zL (fun (i:Nat)=>(⟨[(66,ai (↑e.votes.length:Int)),(65,AV.sl 4 (encA votC e.votes)),(52,ao ((0:Int) != (0:Int))),(7,ai 0),(9,AV.addr 9 0),(42,ao ((0:Int) != (0:Int))),(41,ai 0),(8,ai 0),(34,ao (e.prev != g.head)),(19,ao ((0:Int) != (0:Int))),(6,aw W),(5,ai 0),(4,AV.addr 4 0),(3,AV.addr 3 0),(2,AV.addr 2 0),(0,AV.agg [ai g.epoch,aw g.head,ai g.thr,AV.sl 4 (encA memC g.mems),AV.sl 7 (encA depC g.deps)]),(1,AV.agg [ai e.epoch,aw e.prev,ai e.kind,AV.val (Value.string (ByteArray.mk e.name.toArray)),ai e.kh,aw e.kr,ai e.thr,aw e.dep.pub,aw e.dep.peer,AV.sl 1 (bytesA e.dep.box),AV.sl 1 (encA strC e.dep.holders),AV.sl 1 (wordsA e.dep.digests),ai e.dep.need,aw e.dep.target,aw e.pub,aw e.target,AV.sl 4 (encA votC e.votes)]),(67,ai i)],[(9,⟨1,false,true,[ai e.epoch,aw W,ai ((addG g e).thr),AV.ref 62,AV.sl 7 (encA depC (addG g e).deps)]⟩),(4,⟨1,false,true,[ai 0,au0,ai 0,AV.nil,AV.nil]⟩),(3,⟨1,false,true,[ai e.epoch,aw e.prev,ai e.kind,AV.val (Value.string (ByteArray.mk e.name.toArray)),ai e.kh,aw e.kr,ai e.thr,aw e.dep.pub,aw e.dep.peer,AV.sl 1 (bytesA e.dep.box),AV.sl 1 (encA strC e.dep.holders),AV.sl 1 (wordsA e.dep.digests),ai e.dep.need,aw e.dep.target,aw e.pub,aw e.target,AV.sl 4 (encA votC e.votes)]⟩),(2,⟨1,false,true,List.map (kill0 (62:Nat)) (thawRow (401048:Nat) (Row.mk 4 true false (encA memC (addG g e).mems)) (Row.mk 1 false true (List.map (kill0 (9:Nat)) (List.map (kill0 (401048:Nat)) (List.map (kill0 (4:Nat)) (List.map (kill0 (3:Nat)) (List.map (kill0 (2:Nat)) (grpC g)))))))).cells⟩),(62,⟨4,true,false,encA memC (ups i)⟩)]⟩:AS)) (fun i=>(i≤1)) (fun i=>(1-i)) (0) ?_ (Weaks.of [.keep [66,65,52,7,9,42,41,8,34,19,6,5,4,3,2,0,1,67] [9,4,3,2,62]] (s1:=AS.mk [(66,ai (↑e.votes.length:Int)),(65,AV.sl 4 (encA votC e.votes)),(52,ao ((0:Int) != (0:Int))),(7,ai 0),(9,AV.addr 9 0),(42,ao ((0:Int) != (0:Int))),(41,ai 0),(8,ai 0),(34,ao (e.prev != g.head)),(19,ao ((0:Int) != (0:Int))),(6,aw W),(5,ai 0),(4,AV.addr 4 0),(3,AV.addr 3 0),(2,AV.addr 2 0),(0,AV.agg [ai g.epoch,aw g.head,ai g.thr,AV.sl 4 (encA memC g.mems),AV.sl 7 (encA depC g.deps)]),(1,AV.agg [ai e.epoch,aw e.prev,ai e.kind,AV.val (Value.string (ByteArray.mk e.name.toArray)),ai e.kh,aw e.kr,ai e.thr,aw e.dep.pub,aw e.dep.peer,AV.sl 1 (bytesA e.dep.box),AV.sl 1 (encA strC e.dep.holders),AV.sl 1 (wordsA e.dep.digests),ai e.dep.need,aw e.dep.target,aw e.pub,aw e.target,AV.sl 4 (encA votC e.votes)]),(67,ai 0)] [(9,Row.mk 1 false true [ai e.epoch,aw W,ai ((addG g e).thr),AV.ref 62,AV.sl 7 (encA depC (addG g e).deps)]),(4,Row.mk 1 false true [ai 0,au0,ai 0,AV.nil,AV.nil]),(3,Row.mk 1 false true [ai e.epoch,aw e.prev,ai e.kind,AV.val (Value.string (ByteArray.mk e.name.toArray)),ai e.kh,aw e.kr,ai e.thr,aw e.dep.pub,aw e.dep.peer,AV.sl 1 (bytesA e.dep.box),AV.sl 1 (encA strC e.dep.holders),AV.sl 1 (wordsA e.dep.digests),ai e.dep.need,aw e.dep.target,aw e.pub,aw e.target,AV.sl 4 (encA votC e.votes)]),(2,Row.mk 1 false true (List.map (kill0 (62:Nat)) (thawRow (401048:Nat) (Row.mk 4 true false (encA memC (addG g e).mems)) (Row.mk 1 false true (List.map (kill0 (9:Nat)) (List.map (kill0 (401048:Nat)) (List.map (kill0 (4:Nat)) (List.map (kill0 (3:Nat)) (List.map (kill0 (2:Nat)) (grpC g)))))))).cells)),(62,Row.mk 4 true false (encA memC (addG g e).mems))]) (by kernel_rfl) (as_eq (f_cons rfl (f_cons rfl (f_cons rfl (f_cons rfl (f_cons rfl (f_cons rfl (f_cons rfl (f_cons rfl (f_cons rfl (f_cons rfl (f_cons rfl (f_cons rfl (f_cons rfl (f_cons rfl (f_cons rfl (f_cons rfl (f_cons rfl (f_cons rfl rfl)))))))))))))))))) (h_cons rfl (h_cons rfl (h_cons rfl (h_cons rfl (h_cons (by rw [hu0]) rfl))))))) ?_
 ·omega
 intro i hi
 refine zQ 1 [{}] [] ?_
 refine zS ?_
 refine zD 68 ((↑i:Int)<(↑e.votes.length:Int)) (fun q=>?_) (fun q=>?_)
 ·have ei:i=0:=by omega
  subst ei
  refine zK ?_
  refine then_n ?_
  refine zS ?_
  refine zB 1 ?_
  refine zP 3 [yH [(0,{k:=0}),(1,yV (AV.agg [AV.val (Value.string (ByteArray.mk (e.votes.getD (0:Nat) default).name.toArray)),ai ((e.votes.getD (0:Nat) default).leaf),AV.sl 1 (wordsA (e.votes.getD (0:Nat) default).chains),AV.sl 1 (wordsA (e.votes.getD (0:Nat) default).path)]))],yH [(3,yV (ai (↑k:Int)))],{}] [.keep [76,12,11,68,66,65,52,7,9,42,41,8,34,19,6,5,4,3,2,0,1,67] [11,9,4,3,2,62]] [yR (↑(0:Nat):Int),yO ((0:Nat)<(encA votC e.votes).length),yB (List.take 4 (List.drop 0 (encA votC e.votes))= [AV.val (Value.string (ByteArray.mk (e.votes.getD (0:Nat) default).name.toArray)),ai ((e.votes.getD (0:Nat) default).leaf),AV.sl 1 (wordsA (e.votes.getD (0:Nat) default).chains),AV.sl 1 (wordsA (e.votes.getD (0:Nat) default).path)]) (encA_sub (f:=votC) (e:=4) (k:=0) (j:=0) (fun _=>rfl) (by omega) (by decide) rfl),yR (4:Nat),yL 4 4,yB (Ret Tryz.prog (61:Nat) [AV.agg [ai e.epoch,aw W,ai ((addG g e).thr),AV.sl 4 (encA memC (ups (0:Nat))),AV.sl 7 (encA depC (addG g e).deps)],AV.val (Value.string (ByteArray.mk (e.votes.getD (0:Nat) default).name.toArray))] (ai (↑k:Int))) (hgm)] ?_
  refine zTd 76 ((↑k:Int)≥0) ?_
  refine zX ({hs:=[(3,{k:=k}),(5,yV (aw (((ups (0:Nat)).getD k default).used))),(9,yV (aw ((1:UInt64)<<<UInt64.ofNat (e.votes.getD (0:Nat) default).leaf.toNat))),(10,yV (aw (((ups (0:Nat)).getD k default).used|||(1:UInt64)<<<UInt64.ofNat (e.votes.getD (0:Nat) default).leaf.toNat))),(11,{k:=k})],T:=10}) [yR (↑k:Int),yB (k*(4:Nat)<(encA memC (ups (0:Nat))).length) (by simp only [encA_len (f:=memC) (e:=4) (fun _=>rfl)];omega),yB ((encA memC (ups (0:Nat)))[k*(4:Nat)+(3:Nat)]?=some (aw (((ups (0:Nat)).getD k default).used))) (encA_at (f:=memC) (e:=4) (k:=k) (j:=3) (fun _=>rfl) (by omega) rfl),yB (AV.val (Value.int .u64 (IntKind.u64.wrap ((1:Int)*(2:Int)^min (e.votes.getD (0:Nat) default).leaf.toNat IntKind.u64.bits)))=aw ((1:UInt64)<<<UInt64.ofNat (e.votes.getD (0:Nat) default).leaf.toNat)) (avw_shl 1 _ h4 h5),yB ((0:Int)≤(e.votes.getD (0:Nat) default).leaf) (by assumption),yI (avw_or (((ups (0:Nat)).getD k default).used) ((1:UInt64)<<<UInt64.ofNat (e.votes.getD (0:Nat) default).leaf.toNat)),yR (↑k:Int),yB (k*(4:Nat)<(encA memC (ups (0:Nat))).length) (by simp only [encA_len (f:=memC) (e:=4) (fun _=>rfl)];omega),yB (k*(4:Nat)+(3:Nat)+(1:Nat)≤(encA memC (ups (0:Nat))).length) (by simp only [encA_len (f:=memC) (e:=4) (fun _=>rfl)];omega)] ?_
  refine inb_n ?_
  refine then_n ?_
  refine zX (yH [(0,yV (ai ((↑(0:Nat):Int)+1)))]) [yN ((↑(0:Nat):Int)+1)] ?_
  refine round_n 1 (by omega) (by omega) (Weaks.of [.keep [66,65,52,7,9,42,41,8,34,19,6,5,4,3,2,0,1,67] [9,4,3,2,62]] (s1:=AS.mk [(66,ai (↑e.votes.length:Int)),(65,AV.sl 4 (encA votC e.votes)),(52,ao ((0:Int) != (0:Int))),(7,ai 0),(9,AV.addr 9 0),(42,ao ((0:Int) != (0:Int))),(41,ai 0),(8,ai 0),(34,ao (e.prev != g.head)),(19,ao ((0:Int) != (0:Int))),(6,aw W),(5,ai 0),(4,AV.addr 4 0),(3,AV.addr 3 0),(2,AV.addr 2 0),(0,AV.agg [ai g.epoch,aw g.head,ai g.thr,AV.sl 4 (encA memC g.mems),AV.sl 7 (encA depC g.deps)]),(1,AV.agg [ai e.epoch,aw e.prev,ai e.kind,AV.val (Value.string (ByteArray.mk e.name.toArray)),ai e.kh,aw e.kr,ai e.thr,aw e.dep.pub,aw e.dep.peer,AV.sl 1 (bytesA e.dep.box),AV.sl 1 (encA strC e.dep.holders),AV.sl 1 (wordsA e.dep.digests),ai e.dep.need,aw e.dep.target,aw e.pub,aw e.target,AV.sl 4 (encA votC e.votes)]),(67,ai ((↑(0:Nat):Int)+1))] [(9,Row.mk 1 false true [ai e.epoch,aw W,ai ((addG g e).thr),AV.ref 62,AV.sl 7 (encA depC (addG g e).deps)]),(4,Row.mk 1 false true [ai 0,au0,ai 0,AV.nil,AV.nil]),(3,Row.mk 1 false true [ai e.epoch,aw e.prev,ai e.kind,AV.val (Value.string (ByteArray.mk e.name.toArray)),ai e.kh,aw e.kr,ai e.thr,aw e.dep.pub,aw e.dep.peer,AV.sl 1 (bytesA e.dep.box),AV.sl 1 (encA strC e.dep.holders),AV.sl 1 (wordsA e.dep.digests),ai e.dep.need,aw e.dep.target,aw e.pub,aw e.target,AV.sl 4 (encA votC e.votes)]),(2,Row.mk 1 false true (List.map (kill0 (11:Nat)) (List.map (kill0 (11:Nat)) (List.map (kill0 (62:Nat)) (thawRow (401048:Nat) (Row.mk 4 true false (encA memC (addG g e).mems)) (Row.mk 1 false true (List.map (kill0 (9:Nat)) (List.map (kill0 (401048:Nat)) (List.map (kill0 (4:Nat)) (List.map (kill0 (3:Nat)) (List.map (kill0 (2:Nat)) (grpC g)))))))).cells)))),(62,Row.mk 4 true false ((encA memC (ups (0:Nat))).set (k*(4:Nat)+(3:Nat)) (aw (((ups (0:Nat)).getD k default).used|||(1:UInt64)<<<UInt64.ofNat (e.votes.getD (0:Nat) default).leaf.toNat))))]) (by kernel_rfl) (as_eq (f_cons rfl (f_cons rfl (f_cons rfl (f_cons rfl (f_cons rfl (f_cons rfl (f_cons rfl (f_cons rfl (f_cons rfl (f_cons rfl (f_cons rfl (f_cons rfl (f_cons rfl (f_cons rfl (f_cons rfl (f_cons rfl (f_cons rfl (f_cons rfl rfl)))))))))))))))))) (h_cons rfl (h_cons rfl (h_cons rfl (h_cons rfl (h_cons (by rw [hu1];exact (mems_set (by omega) _).trans (by rw [hu0];rfl)) rfl)))))))
 ·have ei:i=1:=by omega
  subst ei
  refine zE 0 ?_
  refine then_e ?_
  refine round_e ?_
  refine inb_e ?_
  refine then_n ?_
  refine zP 1 [{}] [.keep [5,68,66,65,52,7,9,42,41,8,34,19,6,4,3,2,0,1,67] [4,9,3,2,62]] [yL 5 5] ?_
  refine zR ?_
  refine zV [yR (Value.int .i64 e.epoch),yR (Value.int .u64 (wv W)),yR (Value.int .i64 (addG g e).thr),yB (encA memC (ups (1:Nat))=encA memC (appG g e W (e.votes.getD (0:Nat) default) k).mems) (by rw [hu1]),yR (encA depC (addG g e).deps),yR (Value.int .i64 0)]
end Go.Proofs.YtjgbhhnghedgdaaGreatDoor
