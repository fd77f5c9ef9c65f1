import Derived.Test.YtjgbhhnghedgdaaGreatDoorZsV8
import Derived.Test.YtjgbhhnghedgdaaGreatDoorZsRec2
import Derived.Test.YtjgbhhnghedgdaaGreatDoorZsTk6
import Derived.Test.YtjgbhhnghedgdaaGreatDoorZsTk7
import Derived.Test.YtjgbhhnghedgdaaGreatDoorZsRF
set_option linter.all false
namespace Go.Proofs.YtjgbhhnghedgdaaGreatDoor
open Go.RowKit
set_option maxRecDepth 100000
set_option maxHeartbeats 4000000
set_option linter.unusedVariables false
def entO (e:Ent) (V:List Vot):List AV:=[ai e.epoch,aw e.prev,ai e.kind,as_ e.name,ai e.kh,aw e.kr,ai e.thr,aw e.dep.pub,aw e.dep.peer,.own 1 (bytesA e.dep.box),.own 1 (encA strC e.dep.holders),.own 1 (wordsA e.dep.digests),ai e.dep.need,aw e.dep.target,aw e.pub,aw e.target,.own 4 (encA votC V)]
theorem vote1_ret (e:Ent) (W:UInt64) (name:List UInt8) (seed:UInt64) (h leaf:Int) (hv:e.votes= []) (hs:sgE h leaf=0) (hw:Ret Tryz.prog 50 [.agg (entC e)] (.tup [aw W,ai 0])) (h1:e.dep.box.length≤1000000) (h2:e.dep.holders.length≤1000000) (h3:e.dep.digests.length≤1000000) :
  Ret Tryz.prog 25 [.agg (entC e),as_ name,aw seed,ai h,ai leaf] (.tup [.agg (entO e [⟨name,sgL h leaf,sgC seed h leaf W,sgP seed h leaf⟩]),ai 0]):=by
 have hvl:(encA votC e.votes).length=0:=by rw [hv];rfl
 have hcd:=copydep_ret e.dep h1 h2 h3
 refine zO Tryz.func25 114 ?_
 refine zP 2 [{},yH [(1,yV (AV.tup [aw W,ai 0]))]] [.keep [13,12,11,10,5,0,1,2,3,4] [10,5]] [yB (Ret Tryz.prog (50:Nat) [AV.agg [ai e.epoch,aw e.prev,ai e.kind,AV.val (Value.string (ByteArray.mk e.name.toArray)),ai e.kh,aw e.kr,ai e.thr,aw e.dep.pub,aw e.dep.peer,AV.sl 1 (bytesA e.dep.box),AV.sl 1 (encA strC e.dep.holders),AV.sl 1 (wordsA e.dep.digests),ai e.dep.need,aw e.dep.target,aw e.pub,aw e.target,AV.sl 4 (encA votC e.votes)]] (AV.tup [aw W,ai 0])) (hw)] ?_
 refine zS ?_
 refine zQ 1 [{}] [] ?_
 refine zFb 27 ((0:Int) != (0:Int)) rfl ?_
 refine zK ?_
 refine then_n ?_
 refine zS ?_
 refine zP 1 [yH [(2,{k:=e.votes.length})]] [.keep [33,32,31,27,13,12,11,10,5,0,1,2,3,4] [10,5]] [yB ((encA votC e.votes).length=e.votes.length*(4:Nat)) (by simp only [encA_len (f:=votC) (e:=4) (fun _=>rfl)])] ?_
 refine zB 0 ?_
 refine zL (fun (i:Nat)=>(⟨[(32,ai (↑e.votes.length:Int)),(31,AV.sl 4 (encA votC e.votes)),(27,ao ((0:Int) != (0:Int))),(13,ai 0),(12,aw W),(10,AV.addr 10 0),(5,AV.addr 5 0),(0,AV.agg [ai e.epoch,aw e.prev,ai e.kind,AV.val (Value.string (ByteArray.mk e.name.toArray)),ai e.kh,aw e.kr,ai e.thr,aw e.dep.pub,aw e.dep.peer,AV.sl 1 (bytesA e.dep.box),AV.sl 1 (encA strC e.dep.holders),AV.sl 1 (wordsA e.dep.digests),ai e.dep.need,aw e.dep.target,aw e.pub,aw e.target,AV.sl 4 (encA votC e.votes)]),(1,AV.val (Value.string (ByteArray.mk name.toArray))),(2,aw seed),(3,ai h),(4,ai leaf),(33,ai i)],[(10,⟨1,false,true,[ai 0,au0,ai 0,AV.val (Value.string (ByteArray.mk #[])),ai 0,au0,ai 0,au0,au0,AV.nil,AV.nil,AV.nil,ai 0,au0,au0,au0,AV.nil]⟩),(5,⟨1,false,true,List.map (kill0 (10:Nat)) (List.map (kill0 (5:Nat)) (entC e))⟩)]⟩:AS)) (fun i=>(i=0)) (fun i=>0) (0) ?_ (zW [.keep [32,31,27,13,12,10,5,0,1,2,3,4,33] [10,5]]) ?_
 ·rfl
 rintro i rfl
 refine zQ 1 [{}] [] ?_
 refine zS ?_
 refine zFb 34 (decide ((↑(0:Nat):Int)<(↑e.votes.length:Int))) (by simp_all) ?_
 refine zE 0 ?_
 refine then_e ?_
 refine round_e ?_
 refine inb_e ?_
 refine then_n ?_
 refine zP 1 [yH [(4,{av:=some (AV.tup [AV.agg [ai (sgL h leaf),AV.sl 1 (wordsA (sgC seed h leaf W)),AV.own 1 (wordsA (sgP seed h leaf))],ai (sgE h leaf)]),b:=false})]] [.keep [13,16,34,32,31,27,12,10,5,0,1,2,3,4,33] [16,301048,10,5]] [yI (sign_ret seed h leaf W),yL 3 3] ?_
 refine zS ?_
 refine zQ 1 [yH [(1,yV (ao false))]] [yB (ao (sgE h leaf != (0:Int))=ao false) (by simp [hs])] ?_
 refine zF 52 ?_
 refine zK ?_
 refine then_n ?_
 refine zQ 1 [{}] [] ?_
 refine zS ?_
 refine zB 2 ?_
 refine zL (fun (i:Nat)=>(⟨[(52,ao false),(13,ai (sgE h leaf)),(16,AV.addr 16 0),(34,ao (decide ((↑(0:Nat):Int)<(↑e.votes.length:Int)))),(32,ai (↑e.votes.length:Int)),(31,AV.sl 4 (encA votC e.votes)),(27,ao ((0:Int) != (0:Int))),(12,aw W),(10,AV.addr 10 0),(5,AV.addr 5 0),(0,AV.agg [ai e.epoch,aw e.prev,ai e.kind,AV.val (Value.string (ByteArray.mk e.name.toArray)),ai e.kh,aw e.kr,ai e.thr,aw e.dep.pub,aw e.dep.peer,AV.sl 1 (bytesA e.dep.box),AV.sl 1 (encA strC e.dep.holders),AV.sl 1 (wordsA e.dep.digests),ai e.dep.need,aw e.dep.target,aw e.pub,aw e.target,AV.sl 4 (encA votC e.votes)]),(1,AV.val (Value.string (ByteArray.mk name.toArray))),(2,aw seed),(3,ai h),(4,ai leaf),(33,ai (↑(0:Nat):Int)),(17,ai i)],[(16,⟨1,false,true,[ai (sgL h leaf),AV.sl 1 (wordsA (sgC seed h leaf W)),AV.ref 301048]⟩),(10,⟨1,false,true,[ai 0,au0,ai 0,AV.val (Value.string (ByteArray.mk #[])),ai 0,au0,ai 0,au0,au0,AV.nil,AV.nil,AV.nil,ai 0,au0,au0,au0,AV.nil]⟩),(5,⟨1,false,true,List.map (kill0 (16:Nat)) (List.map (kill0 (301048:Nat)) (List.map (kill0 (10:Nat)) (List.map (kill0 (5:Nat)) (entC e))))⟩),(301048,⟨1,true,false,wordsA (sgP seed h leaf)⟩)]⟩:AS)) (fun i=>(i=0)) (fun i=>0) (0) ?_ (zW [.keep [52,13,16,34,32,31,27,12,10,5,0,1,2,3,4,33,17] [16,10,5,301048]]) ?_
 ·rfl
 rintro i rfl
 have w1:IntKind.i64.wrap ((e.votes.length:Int)+1)=(1:Nat):=by rw [hv];rfl
 refine zS ?_
 refine zP 1 [yH [(3,{k:=e.votes.length}),(6,{g:=false}),(7,{g:=false}),(8,{g:=false}),(9,{g:=false}),(10,{g:=false}),(11,{g:=false}),(12,{g:=false}),(13,{g:=false}),(14,{b:=false})]] [.keep [69,52,13,16,34,32,31,27,12,10,5,0,1,2,3,4,33,17] [16,10,5,301048]] [yB ((encA votC e.votes).length=e.votes.length*(4:Nat)) (by simp only [encA_len (f:=votC) (e:=4) (fun _=>rfl)]),yB (decide ((↑(0:Nat):Int)<(↑e.votes.length:Int))=false) (by simp_all),yB (decide ((↑(0:Nat):Int)<(↑e.votes.length:Int))=false) (by simp_all),yB (decide ((↑(0:Nat):Int)<(↑e.votes.length:Int))=false) (by simp_all),yB (decide ((↑(0:Nat):Int)<(↑e.votes.length:Int))=false) (by simp_all),yB (decide ((↑(0:Nat):Int)<(↑e.votes.length:Int))=false) (by simp_all),yB (decide ((↑(0:Nat):Int)<(↑e.votes.length:Int))=false) (by simp_all),yB (decide ((↑(0:Nat):Int)<(↑e.votes.length:Int))=false) (by simp_all),yB (decide ((↑(0:Nat):Int)<(↑e.votes.length:Int))=false) (by simp_all),yB (decide ((↑(0:Nat):Int)<(↑e.votes.length:Int))=false) (by simp_all)] ?_
 refine zF 69 ?_
 refine zE 2 ?_
 refine then_e ?_
 refine round_e ?_
 refine inb_e ?_
 refine then_n ?_
 refine zP 1 [yH [(2,{k:=e.votes.length}),(3,yV (ai (↑(1:Nat):Int))),(4,{k:=0,m:=1})]] [.keep [18,69,52,13,16,34,32,31,27,12,10,5,0,1,2,3,4,33,17] [76,16,10,5,301048]] [yB ((encA votC e.votes).length=e.votes.length*(4:Nat)) (by simp only [encA_len (f:=votC) (e:=4) (fun _=>rfl)]),yB (ai (IntKind.i64.wrap ((↑e.votes.length:Int)+1))=ai (↑(1:Nat):Int)) (congrArg (fun n=>AV.val (.int .i64 n)) w1),yR (0:Int),yR (↑(1:Nat):Int),yL 0 1,yL 72 281474976710656,yB ((1:Nat)≤maxLen) (by decide)] ?_
 refine zS ?_
 refine zQ 1 [yH [(2,{k:=e.votes.length})]] [yB ((encA votC e.votes).length=e.votes.length*(4:Nat)) (by simp only [encA_len (f:=votC) (e:=4) (fun _=>rfl)])] ?_
 refine zB 4 ?_
 refine zL (fun (i:Nat)=>(⟨[(79,ai (↑e.votes.length:Int)),(78,AV.sl 4 (encA votC e.votes)),(69,ao false),(52,ao false),(13,ai (sgE h leaf)),(16,AV.addr 16 0),(34,ao (decide ((↑(0:Nat):Int)<(↑e.votes.length:Int)))),(32,ai (↑e.votes.length:Int)),(31,AV.sl 4 (encA votC e.votes)),(27,ao ((0:Int) != (0:Int))),(12,aw W),(10,AV.addr 10 0),(5,AV.addr 5 0),(0,AV.agg [ai e.epoch,aw e.prev,ai e.kind,AV.val (Value.string (ByteArray.mk e.name.toArray)),ai e.kh,aw e.kr,ai e.thr,aw e.dep.pub,aw e.dep.peer,AV.sl 1 (bytesA e.dep.box),AV.sl 1 (encA strC e.dep.holders),AV.sl 1 (wordsA e.dep.digests),ai e.dep.need,aw e.dep.target,aw e.pub,aw e.target,AV.sl 4 (encA votC e.votes)]),(1,AV.val (Value.string (ByteArray.mk name.toArray))),(2,aw seed),(3,ai h),(4,ai leaf),(33,ai (↑(0:Nat):Int)),(17,ai (↑(0:Nat):Int)),(80,ai i),(18,AV.ref 76)],[(16,⟨1,false,true,[ai (sgL h leaf),AV.sl 1 (wordsA (sgC seed h leaf W)),AV.ref 301048]⟩),(10,⟨1,false,true,[ai 0,au0,ai 0,AV.val (Value.string (ByteArray.mk #[])),ai 0,au0,ai 0,au0,au0,AV.nil,AV.nil,AV.nil,ai 0,au0,au0,au0,AV.nil]⟩),(5,⟨1,false,true,List.map (kill0 (76:Nat)) (List.map (kill0 (16:Nat)) (List.map (kill0 (301048:Nat)) (List.map (kill0 (10:Nat)) (List.map (kill0 (5:Nat)) (entC e)))))⟩),(301048,⟨1,true,false,wordsA (sgP seed h leaf)⟩),(76,⟨4,true,false,encA votC []⟩)]⟩:AS)) (fun i=>(i=0)) (fun i=>0) (0) ?_ (zW [.keep [79,78,69,52,13,16,34,32,31,27,12,10,5,0,1,2,3,4,33,17,80,18] [16,10,5,301048,76]]) ?_
 ·rfl
 rintro i rfl
 have hI:RetM Tryz.prog 53 [.ref 5,ai (0:Nat),.sl 4 [as_ name,ai (sgL h leaf),.sl 1 (wordsA (sgC seed h leaf W)),.sl 1 (wordsA (sgP seed h leaf))]] [(5,⟨4,true,false,encA votC []⟩)] (.own 4 (encA votC [⟨name,sgL h leaf,sgC seed h leaf W,sgP seed h leaf⟩])) [(5,⟨4,true,false,encA votC []⟩)]:=insert_retm [] ⟨name,sgL h leaf,sgC seed h leaf W,sgP seed h leaf⟩ (by decide)
 refine zQ 1 [{}] [] ?_
 refine zS ?_
 refine zFb 81 (decide ((↑(0:Nat):Int)<(↑e.votes.length:Int))) (by simp_all) ?_
 refine zE 4 ?_
 refine then_e ?_
 refine round_e ?_
 refine inb_e ?_
 refine then_n ?_
 refine zP 3 [yH [(6,{av:=some (AV.own 4 (encA votC [Vot.mk name (sgL h leaf) (sgC seed h leaf W) (sgP seed h leaf)])),ln:=[(76,5)],ho:=[(5,Row.mk 4 true false (encA votC []))]})],yH [(2,{av:=some (AV.agg [aw e.dep.pub,aw e.dep.peer,AV.own 1 (bytesA e.dep.box),AV.own 1 (encA strC e.dep.holders),AV.own 1 (wordsA e.dep.digests),ai e.dep.need,aw e.dep.target]),b:=false})],{}] [.keep [11,81,79,78,69,52,13,16,34,32,31,27,12,10,5,0,1,2,3,4,33,17,80] [10,5,500111,400111,300111,107,16]] [yB (RetM Tryz.prog (53:Nat) [AV.ref 5,ai (↑(0:Nat):Int),AV.sl 4 [AV.val (Value.string (ByteArray.mk name.toArray)),ai (sgL h leaf),AV.sl 1 (wordsA (sgC seed h leaf W)),AV.sl 1 (wordsA (sgP seed h leaf))]] [(5,Row.mk 4 true false (encA votC []))] (AV.own 4 (encA votC [Vot.mk name (sgL h leaf) (sgC seed h leaf W) (sgP seed h leaf)])) [(5,Row.mk 4 true false (encA votC []))]) (hI),yB ((17:Nat)≤(List.map (kill0 (107:Nat)) (killRow (76:Nat) (thawRow (106:Nat) (Row.mk 4 true true [AV.val (Value.string (ByteArray.mk name.toArray)),ai (sgL h leaf),AV.sl 1 (wordsA (sgC seed h leaf W)),AV.sl 1 (wordsA (sgP seed h leaf))]) (Row.mk 1 false true (List.map (kill0 (106:Nat)) (thawRow (301048:Nat) (Row.mk 1 true false (wordsA (sgP seed h leaf))) (Row.mk 1 false true (List.map (kill0 (76:Nat)) (List.map (kill0 (16:Nat)) (List.map (kill0 (301048:Nat)) (List.map (kill0 (10:Nat)) (List.map (kill0 (5:Nat)) (entC e)))))))).cells)))).cells).length) (Nat.le_of_ble_eq_true rfl),yI (copydep_ret e.dep (by assumption) (by assumption) (by assumption)),yB ((14:Nat)≤(List.map (kill0 (300111:Nat)) (killRow (400111:Nat) (killRow (500111:Nat) (Row.mk 1 false true ((List.map (kill0 (107:Nat)) (killRow (76:Nat) (thawRow (106:Nat) (Row.mk 4 true true [AV.val (Value.string (ByteArray.mk name.toArray)),ai (sgL h leaf),AV.sl 1 (wordsA (sgC seed h leaf W)),AV.sl 1 (wordsA (sgP seed h leaf))]) (Row.mk 1 false true (List.map (kill0 (106:Nat)) (thawRow (301048:Nat) (Row.mk 1 true false (wordsA (sgP seed h leaf))) (Row.mk 1 false true (List.map (kill0 (76:Nat)) (List.map (kill0 (16:Nat)) (List.map (kill0 (301048:Nat)) (List.map (kill0 (10:Nat)) (List.map (kill0 (5:Nat)) (entC e)))))))).cells)))).cells).set (16:Nat) (opd (AS.mk [(108,AV.addr 5 16),(107,AV.ref 107),(106,AV.sl 4 [AV.val (Value.string (ByteArray.mk name.toArray)),ai (sgL h leaf),AV.sl 1 (wordsA (sgC seed h leaf W)),AV.sl 1 (wordsA (sgP seed h leaf))]),(105,AV.agg [AV.val (Value.string (ByteArray.mk name.toArray)),ai (sgL h leaf),AV.sl 1 (wordsA (sgC seed h leaf W)),AV.sl 1 (wordsA (sgP seed h leaf))]),(104,AV.agg [ai (sgL h leaf),AV.sl 1 (wordsA (sgC seed h leaf W)),AV.sl 1 (wordsA (sgP seed h leaf))]),(103,AV.val (Value.string (ByteArray.mk name.toArray))),(102,ai (↑(0:Nat):Int)),(101,AV.dead),(81,ao (decide ((↑(0:Nat):Int)<(↑e.votes.length:Int)))),(79,ai (↑e.votes.length:Int)),(78,AV.sl 4 (encA votC e.votes)),(69,ao false),(52,ao false),(13,ai (sgE h leaf)),(16,AV.addr 16 0),(34,ao (decide ((↑(0:Nat):Int)<(↑e.votes.length:Int)))),(32,ai (↑e.votes.length:Int)),(31,AV.sl 4 (encA votC e.votes)),(27,ao ((0:Int) != (0:Int))),(12,aw W),(10,AV.addr 10 0),(5,AV.addr 5 0),(0,AV.agg [ai e.epoch,aw e.prev,ai e.kind,AV.val (Value.string (ByteArray.mk e.name.toArray)),ai e.kh,aw e.kr,ai e.thr,aw e.dep.pub,aw e.dep.peer,AV.sl 1 (bytesA e.dep.box),AV.sl 1 (encA strC e.dep.holders),AV.sl 1 (wordsA e.dep.digests),ai e.dep.need,aw e.dep.target,aw e.pub,aw e.target,AV.sl 4 (encA votC e.votes)]),(1,AV.val (Value.string (ByteArray.mk name.toArray))),(2,aw seed),(3,ai h),(4,ai leaf),(33,ai (↑(0:Nat):Int)),(17,ai (↑(0:Nat):Int)),(80,ai (↑(0:Nat):Int)),(18,AV.dead)] [(107,Row.mk 4 true false (encA votC [Vot.mk name (sgL h leaf) (sgC seed h leaf W) (sgP seed h leaf)])),(76,Row.mk 4 true false (encA votC [])),(16,Row.mk 1 false true [ai (sgL h leaf),AV.sl 1 (wordsA (sgC seed h leaf W)),AV.sl 1 (wordsA (sgP seed h leaf))]),(10,Row.mk 1 false true [ai 0,au0,ai 0,AV.val (Value.string (ByteArray.mk #[])),ai 0,au0,ai 0,au0,au0,AV.nil,AV.nil,AV.nil,ai 0,au0,au0,au0,AV.nil]),(5,Row.mk 1 false true (List.map (kill0 (107:Nat)) (killRow (76:Nat) (thawRow (106:Nat) (Row.mk 4 true true [AV.val (Value.string (ByteArray.mk name.toArray)),ai (sgL h leaf),AV.sl 1 (wordsA (sgC seed h leaf W)),AV.sl 1 (wordsA (sgP seed h leaf))]) (Row.mk 1 false true (List.map (kill0 (106:Nat)) (thawRow (301048:Nat) (Row.mk 1 true false (wordsA (sgP seed h leaf))) (Row.mk 1 false true (List.map (kill0 (76:Nat)) (List.map (kill0 (16:Nat)) (List.map (kill0 (301048:Nat)) (List.map (kill0 (10:Nat)) (List.map (kill0 (5:Nat)) (entC e)))))))).cells)))).cells))]) (Operand.tmp (107:Nat))))))).cells).length) (Nat.le_of_ble_eq_true rfl),yL 17 17] ?_
 refine zR ?_
 refine zV [yR (Value.int .i64 e.epoch),yR (Value.int .u64 (wv e.prev)),yR (Value.int .i64 e.kind),yR (Value.string (ByteArray.mk e.name.toArray)),yR (Value.int .i64 e.kh),yR (Value.int .u64 (wv e.kr)),yR (Value.int .i64 e.thr),yR (Value.int .u64 (wv e.dep.pub)),yR (Value.int .u64 (wv e.dep.peer)),yR (bytesA e.dep.box),yR (encA strC e.dep.holders),yR (wordsA e.dep.digests),yR (Value.int .i64 e.dep.need),yR (Value.int .u64 (wv e.dep.target)),yR (Value.int .u64 (wv e.pub)),yR (Value.int .u64 (wv e.target)),yR (encA votC [Vot.mk name (sgL h leaf) (sgC seed h leaf W) (sgP seed h leaf)]),yR (Value.int .i64 0)]
end Go.Proofs.YtjgbhhnghedgdaaGreatDoor
namespace Go.Proofs.YtjgbhhnghedgdaaGreatDoor
open Go.RowKit
theorem half_xor (q:Nat) (hq:q<16):(q%2=0->q^^^1=q+1∧q=2*(q/2))∧(q%2≠0->q^^^1=q-1∧q=2*(q/2)+1):=by
 have key:∀q:Fin 16,(q.val%2=0->q.val^^^1=q.val+1∧q.val=2*(q.val/2))∧(q.val%2≠0->q.val^^^1=q.val-1∧q.val=2*(q.val/2)+1):=by decide +kernel
 exact key ⟨q,hq⟩
theorem climb_node (seed:UInt64) (leaf n:Nat) (x:UInt64) (hx:x=nodeW seed 0 leaf) (h16:leaf<16) (k:Nat) (hk:k≤n):climb leaf (pathW seed leaf n) x k=nodeW seed k (leaf/2^k):=by
 induction k with
 | zero=>simp [climb,hx]
 | succ k ih =>
  have ih:=ih (by omega)
  have hg:(pathW seed leaf n).getD k 0=nodeW seed k (leaf/2^k^^^1):=by simp [pathW,show k<n by omega]
  have hd:leaf/2^(k+1)=leaf/2^k/2:=by rw [Nat.pow_succ,Nat.div_div_eq_div_mul]
  obtain ⟨h1,h2⟩:=half_xor (leaf/2^k) (Nat.lt_of_le_of_lt (Nat.div_le_self ..) h16)
  unfold climb
  rw [ih,hg,hd]
  generalize leaf/2^k=q at *
  by_cases hq:q%2=0
  ·obtain ⟨e1,e2⟩:=h1 hq
   rw [if_pos hq,e1]
   show parW _ _ _=parW _ _ _
   rw [←e2]
  ·obtain ⟨e1,e2⟩:=h2 hq
   rw [if_neg hq,e1]
   show parW _ _ _=parW _ _ _
   rw [show 2*(q/2)+1=q by omega,show 2*(q/2)=q-1 by omega]
theorem ver_sign (seed:UInt64) (h leaf:Nat) (m:UInt64) (hh:h≤4) (hl:leaf<2^h):verE (h:Int) (nodeW seed h 0) m (leaf:Int) (signL seed leaf m 18) (pathW seed leaf h)=0:=by
 have hb:¬badL (h:Int) (leaf:Int):=by unfold badL badH;rw [Int.toNat_natCast];omega
 have e:=climb_node seed leaf h (combine leaf (recL leaf m (signL seed leaf m 18) 18)) (by rw [rec_sign];rfl) (Nat.lt_of_lt_of_le hl (Nat.pow_le_pow_right (by decide) hh)) h (Nat.le_refl h)
 rw [Nat.div_eq_of_lt hl] at e
 unfold verE
 rw [if_neg hb,if_neg (by rw [signL_len,pathW_len];omega),Int.toNat_natCast,Int.toNat_natCast,if_pos e]
end Go.Proofs.YtjgbhhnghedgdaaGreatDoor
namespace Go.Proofs.YtjgbhhnghedgdaaGreatDoor
open Go.RowKit
def slc1 (es:List (Nat×Nat)) (j:Nat):AV->AV
 | .nil=>(match look es j with|some e=>.sl e []|none=>.nil)
 | x=>x
theorem slc1_or (es:List (Nat×Nat)) (j:Nat) (x:AV):slc1 es j x=x∨x= .nil∧ ∃e,slc1 es j x= .sl e []:=by
 cases x with
 | nil =>
  cases h:look es j with
  | none=>exact .inl (by show (match look es j with|some e=>AV.sl e []|none=>.nil)=_;rw [h])
  | some e=>exact .inr ⟨rfl,e,by show (match look es j with|some e=>AV.sl e []|none=>.nil)=_;rw [h]⟩
 | _=>exact .inl rfl
def slC (es:List (Nat×Nat)):List AV->Nat->List AV
 | [],_=>[]
 | x::l,j=>slc1 es j x::slC es l (j+1)
def slA (es:List (Nat×Nat)):AV->AV
 | .agg cs=>.agg (slC es cs 0)
 | x=>x
theorem slC_len (es:List (Nat×Nat)):∀(l:List AV) (j:Nat),(slC es l j).length=l.length
 | [],_=>rfl
 | _::l,j=>congrArg (· +1) (slC_len es l (j+1))
theorem slC_at (es:List (Nat×Nat)):∀(l:List AV) (j i:Nat) (y:AV),(slC es l j)[i]?=some y-> ∃x,l[i]?=some x∧(y=x∨x= .nil∧ ∃e,y= .sl e [])
 | [],_,_,_,h=>by cases h
 | x::l,j,0,y,h=>by
  have h:some (slc1 es j x)=some y:=h
  injection h with h
  subst h
  exact ⟨x,rfl,slc1_or es j x⟩
 | x::l,j,i+1,y,h=>slC_at es l (j+1) i y h
theorem Rep.slA (es:List (Nat×Nat)) {S:Nat->Prop} {w:World} {v:Value} {x:AV} (h:Rep S w v x):Rep S w v (slA es x):=by
 cases h with
 | agg vs cs hl h =>
  refine .agg vs _ (by rw [hl,slC_len]) fun j v c hv hc=>?_
  obtain ⟨x,hx,e⟩:=slC_at es cs 0 j c hc
  have hr:=h j v x hv hx
  rcases e with rfl|⟨rfl,e,rfl⟩
  ·exact hr
  ·cases hr;exact sl_empty none 0 0 e (by simp) (Nat.le_refl _) (by simp)
 | nil=>exact .nil
 | val v=>exact .val v
 | tup vs cs hl h=>exact .tup vs cs hl h
 | arr vs cs hl h=>exact .arr vs cs hl h
 | sl A n c e us row hl hn hc hm ha h=>exact .sl A n c e us row hl hn hc hm ha h
 | ful A n e us row hl hn hm ha h=>exact .ful A n e us row hl hn hm ha h
 | ptr ad us row off hl hs ha h=>exact .ptr ad us row off hl hs ha h
 | clo f vs cs hl h=>exact .clo f vs cs hl h
theorem Ret.nilsA (es:List (Nat×Nat)) {P:Program} {f:FuncId} {args:List AV} {r:AV} (h:Ret P f (args.map (slA es)) r):Ret P f args r:=by
 intro w S vs hgood hS hv hr
 refine h w S vs hgood hS (by rw [List.length_map];exact hv) fun j v y hvj hy=>?_
 rw [List.getElem?_map] at hy
 cases hx:args[j]? with
 | none=>rw [hx] at hy;cases hy
 | some x=>rw [hx] at hy;cases hy;exact (hr j v x hvj hx).slA es
end Go.Proofs.YtjgbhhnghedgdaaGreatDoor
