import Derived.Test.YtejpabdmiagnnaaGreatDoorZrV8
import Derived.Test.YtejpabdmiagnnaaGreatDoorZrSeal1
set_option linter.all false
namespace Go.Proofs.YtejpabdmiagnnaaGreatDoor
open Go.RowKit
set_option maxRecDepth 100000
set_option maxHeartbeats 4000000
set_option linter.unusedVariables false
def wstep (x:UInt64) (c:UInt8):UInt64:=(x<<<8)|||c.toUInt64
def wordOf (b:List UInt8):UInt64:=b.foldl wstep 0
theorem wordOf_take {b:List UInt8} {i:Nat} (h:i<b.length):wstep (wordOf (b.take i)) (b.getD i 0)=wordOf (b.take (i+1)):=by
 rw [List.take_add_one,wordOf,wordOf,List.foldl_append]
 simp [h]
theorem refword_ret (b:List UInt8) (h:b.length=8):Ret Tryz.prog 63 [.sl 1 (bytesA b)] (aw (wordOf b)):=by
 refine zO Tryz.func63 24 ?_
 refine zQ 2 [{},{}] [] ?_
 refine zS ?_
 refine zQ 1 [{}] [] ?_
 refine zB 0 ?_
 refine zL (fun (i:Nat)=>(⟨[(2,AV.val (Value.int .u64 0)),(0,AV.sl 1 (bytesA b)),(4,ai i),(3,aw (wordOf (b.take i)))],[]⟩:AS)) (fun i=>(i≤8)) (fun i=>(8-i)) (0) ?_ (zW [.keep [2,0,4,3] []]) ?_
 ·omega
 intro i hi
 refine (Classical.em ((↑i:Int)<8)).elim (fun h1=>?_) (fun h1=>?_)
 ·have hw:=wordOf_take (b:=b) (i:=i) (by omega)
  refine zS ?_
  refine zP 1 [yH [(5,{k:=b.length})]] [.keep [12,2,0,4,3] []] [yT ((↑i:Int)<8),yT ((↑i:Int)<8),yT ((↑i:Int)<8),yI (bytesA_len b),yT ((↑i:Int)<8),yT ((↑i:Int)<8)] ?_
  refine zTd 12 ((↑i:Int)<(↑b.length:Int)) ?_
  refine zK ?_
  refine then_n ?_
  refine zS ?_
  refine zB 1 ?_
  refine zX (yH [(1,yV (aw (wordOf (List.take i b)<<<(8:UInt64)))),(4,{k:=i}),(5,yV (ab (b.getD i 0))),(6,yV (aw ((b.getD i 0).toUInt64))),(7,yV (aw (wordOf (List.take i b)<<<(8:UInt64)|||(b.getD i 0).toUInt64)))]) [yI (avw_shl (wordOf (List.take i b)) ((8:Int)) (by omega) (by omega)),yO ((0:Int)≤8),yR (↑i:Int),yB (i<(bytesA b).length) (by simp only [bytesA_len];omega),yB ((bytesA b)[i]?=some (ab (b.getD i 0))) (bytesA_at (by omega)),yI (avw_bv (b.getD i 0)),yI (avw_or (wordOf (List.take i b)<<<(8:UInt64)) ((b.getD i 0).toUInt64))] ?_
  refine inb_n ?_
  refine then_n ?_
  refine zX (yH [(1,yV (ai ((↑i:Int)+1)))]) [yN ((↑i:Int)+1)] ?_
  refine round_n (i+1) (by omega) (by omega) (Weaks.of [.keep [2,0,4,3] []] (s1:=AS.mk [(2,AV.val (Value.int .u64 0)),(0,AV.sl 1 (bytesA b)),(4,ai ((↑i:Int)+1)),(3,aw (wordOf (List.take i b)<<<(8:UInt64)|||(b.getD i 0).toUInt64))] []) (by kernel_rfl) (as_eq (f_cons rfl (f_cons rfl (f_cons rfl (f_cons (congrArg aw hw) rfl)))) rfl))
 ·have e:i=8:=by omega
  subst e
  refine zS ?_
  refine zP 1 [yH [(3,{g:=false}),(4,{g:=false}),(5,{g:=false}),(6,{g:=false}),(7,{b:=false})]] [.keep [12,2,0,4,3] []] [yF ((↑(8:Nat):Int)<8),yF ((↑(8:Nat):Int)<8),yF ((↑(8:Nat):Int)<8),yF ((↑(8:Nat):Int)<8),yF ((↑(8:Nat):Int)<8)] ?_
  refine zF 12 ?_
  refine zE 0 ?_
  refine then_e ?_
  refine round_e ?_
  refine inb_e ?_
  refine then_n ?_
  refine zP 1 [{}] [.keep [2,12,0,4,3] []] [] ?_
  refine zR ?_
  refine zV [yK (wv (wordOf (List.take 8 b))) (wv (wordOf b)) (by rw [List.take_of_length_le (by omega)])]
def openN (box:List UInt8):UInt64:=wordOf (box.take 8)
def openH (box:List UInt8):List UInt8:=(box.drop 8).take (box.length-8-8)
def openE (key:UInt64) (bound box:List UInt8):Int :=
 if box.length<16 then 1 else if 1040<box.length∨1024<bound.length then 8 else if box.drop (box.length-8)=tagB key (openN box) bound (openH box) then 0 else 14
def openD (key:UInt64) (bound box:List UInt8):List UInt8:=if openE key bound box=0 then mixL key (openN box) (openH box) else []
theorem open_ret (key:UInt64) (bound box:List UInt8):Ret Tryz.prog 117 [aw key,.sl 1 (bytesA bound),.sl 1 (bytesA box)] (.tup [.own 1 (bytesA (openD key bound box)),ai (openE key bound box)]):=by
 refine Ret.len 2 rfl fun hlen=>?_
 rw [bytesA_len] at hlen
 refine zO Tryz.func117 58 ?_
 refine zQ 1 [{}] [] ?_
 refine zS ?_
 refine zP 1 [yH [(1,{k:=box.length})]] [.keep [14,7,6,0,1,2] []] [yI (bytesA_len box)] ?_
 refine zD 14 ((↑box.length:Int)<16) (fun h1=>?_) (fun h1=>?_)
 ·have e:openE key bound box=1:=by unfold openE;rw [if_pos (by omega)]
  refine zQ 1 [{}] [] ?_
  refine zR ?_
  refine then_r ?_
  refine zV [yB (bytesA (openD key bound box)= []) (by rw [openD,e];rfl),yJ 1 (openE key bound box) (by rw [e])]
 refine zK ?_
 refine then_n ?_
 refine zS ?_
 refine (Classical.em ((↑box.length:Int)>1040)).elim (fun h2=>?_) (fun h2=>?_)
 ·have e:openE key bound box=8:=by unfold openE;rw [if_neg (by omega),if_pos (by omega)]
  refine zP 1 [yH [(1,{k:=box.length})]] [.keep [22,14,7,6,0,1,2] []] [yI (bytesA_len box),yT ((↑box.length:Int)>1040),yT ((↑box.length:Int)>1040),yT ((↑box.length:Int)>1040),yT ((↑box.length:Int)>1040)] ?_
  refine zT 22 ?_
  refine zQ 1 [{}] [] ?_
  refine zR ?_
  refine then_r ?_
  refine zV [yB (bytesA (openD key bound box)= []) (by rw [openD,e];rfl),yJ 8 (openE key bound box) (by rw [e])]
 refine zP 1 [yH [(1,{k:=box.length}),(4,{g:=false}),(5,{k:=bound.length,g:=false}),(6,{g:=false}),(7,{b:=false})]] [.keep [22,14,7,6,0,1,2] []] [yI (bytesA_len box),yF ((↑box.length:Int)>1040),yF ((↑box.length:Int)>1040),yI (bytesA_len bound),yF ((↑box.length:Int)>1040),yF ((↑box.length:Int)>1040)] ?_
 refine zD 22 ((↑bound.length:Int)>1024) (fun h3=>?_) (fun h3=>?_)
 ·have e:openE key bound box=8:=by unfold openE;rw [if_neg (by omega),if_pos (by omega)]
  refine zQ 1 [{}] [] ?_
  refine zR ?_
  refine then_r ?_
  refine zV [yB (bytesA (openD key bound box)= []) (by rw [openD,e];rfl),yJ 8 (openE key bound box) (by rw [e])]
 refine zK ?_
 refine then_n ?_
 refine zQ 1 [{}] [] ?_
 refine zS ?_
 refine zQ 1 [yH [(1,{av:=some (AV.sl 1 (bytesA (List.take 8 box))),m:=8}),(2,{k:=(List.take 8 box).length})]] [yB (AV.sl 1 (List.take 8 (bytesA box))=AV.sl 1 (bytesA (List.take 8 box))) (congrArg (AV.sl 1) (bytesA_take _ _)),yR (8:Int),yB ((8:Nat)≤(bytesA box).length) (by simp only [bytesA_len];omega),yI (bytesA_len (List.take 8 box))] ?_
 refine zB 0 ?_
 refine zL (fun (i:Nat)=>(⟨[(25,ai (↑(List.take 8 box).length:Int)),(24,AV.sl 1 (bytesA (List.take 8 box))),(22,ao (decide ((↑bound.length:Int)>1024))),(14,ao (decide ((↑box.length:Int)<16))),(7,ai 0),(6,AV.nil),(0,aw key),(1,AV.sl 1 (bytesA bound)),(2,AV.sl 1 (bytesA box)),(26,ai i),(8,aw (wordOf ((box.take 8).take i)))],[]⟩:AS)) (fun i=>(i≤8)) (fun i=>(8-i)) (0) ?_ (zW [.keep [25,24,22,14,7,6,0,1,2,26,8] []]) ?_
 ·omega
 intro i hi
 have ht:(box.take 8).length=8:=by rw [List.length_take];omega
 refine zQ 1 [{}] [] ?_
 refine zS ?_
 refine zD 27 ((↑i:Int)<(↑(List.take 8 box).length:Int)) (fun h4=>?_) (fun h4=>?_)
 ·have hw:=wordOf_take (b:=box.take 8) (i:=i) (by omega)
  refine zK ?_
  refine then_n ?_
  refine zS ?_
  refine zB 1 ?_
  refine zP 1 [yH [(0,{k:=i}),(1,yV (ab ((List.take 8 box).getD i 0)))]] [.keep [10,27,25,24,22,14,7,6,0,1,2,26,8] []] [yR (↑i:Int),yB (i<(bytesA (List.take 8 box)).length) (by simp only [bytesA_len];omega),yB ((bytesA (List.take 8 box))[i]?=some (ab ((List.take 8 box).getD i 0))) (bytesA_at (by omega))] ?_
  refine zX (yH [(1,yV (aw (wordOf (List.take i (List.take 8 box))<<<(8:UInt64)))),(3,yV (aw (((List.take 8 box).getD i 0).toUInt64))),(4,yV (aw (wordOf (List.take i (List.take 8 box))<<<(8:UInt64)|||((List.take 8 box).getD i 0).toUInt64)))]) [yI (avw_shl (wordOf (List.take i (List.take 8 box))) ((8:Int)) (by omega) (by omega)),yO ((0:Int)≤8),yI (avw_bv ((List.take 8 box).getD i 0)),yI (avw_or (wordOf (List.take i (List.take 8 box))<<<(8:UInt64)) (((List.take 8 box).getD i 0).toUInt64))] ?_
  refine inb_n ?_
  refine then_n ?_
  refine zX (yH [(0,yV (ai ((↑i:Int)+1)))]) [yN ((↑i:Int)+1)] ?_
  refine round_n (i+1) (by omega) (by omega) (Weaks.of [.keep [25,24,22,14,7,6,0,1,2,26,8] []] (s1:=AS.mk [(25,ai (↑(List.take 8 box).length:Int)),(24,AV.sl 1 (bytesA (List.take 8 box))),(22,ao (decide ((↑bound.length:Int)>1024))),(14,ao (decide ((↑box.length:Int)<16))),(7,ai 0),(6,AV.nil),(0,aw key),(1,AV.sl 1 (bytesA bound)),(2,AV.sl 1 (bytesA box)),(26,ai ((↑i:Int)+1)),(8,aw (wordOf (List.take i (List.take 8 box))<<<(8:UInt64)|||((List.take 8 box).getD i 0).toUInt64))] []) (by kernel_rfl) (as_eq (f_cons rfl (f_cons rfl (f_cons rfl (f_cons rfl (f_cons rfl (f_cons rfl (f_cons rfl (f_cons rfl (f_cons rfl (f_cons rfl (f_cons (congrArg aw hw) rfl))))))))))) rfl))
 ·have e:i=8:=by omega
  subst e
  have e8:(box.take 8).take 8=box.take 8:=List.take_of_length_le (by omega)
  have hh:(openH box).length=box.length-16:=by unfold openH;rw [List.length_take,List.length_drop];omega
  have htl:=tagB_len key (openN box) bound (openH box)
  have hsl:AV.sl 1 (((bytesA box).drop 8).take (box.length-8-8))=AV.sl 1 (bytesA (openH box)):=by rw [bytesA_drop,bytesA_take];rfl
  have hbl:(box.drop (box.length-8)).length=8:=by rw [List.length_drop];omega
  have hN:wordOf (box.take 8)=openN box:=rfl
  rw [e8,hN]
  refine zE 0 ?_
  refine then_e ?_
  refine round_e ?_
  refine inb_e ?_
  refine then_n ?_
  refine zP 1 [yH [(1,{k:=box.length}),(2,yV (ai ((↑box.length:Int)-8)))]] [.keep [11,27,25,24,22,14,7,6,0,1,2,26,8] []] [yI (bytesA_len box),yN ((↑box.length:Int)-8)] ?_
  refine zS ?_
  refine zP 1 [{hs:=[(2,{av:=some (AV.sl 1 (bytesA (List.drop (box.length-(8:Nat)) box))),k:=box.length-(8:Nat)}),(4,yV (AV.arr (bytesA (List.drop (box.length-(8:Nat)) box)))),(10,{av:=some (AV.sl 1 (bytesA (openH box))),k:=8,m:=box.length-(8:Nat)}),(11,{av:=some (AV.arr (bytesA (tagB key (openN box) bound (openH box)))),b:=false}),(12,yV (ao (List.drop (box.length-(8:Nat)) box != tagB key (openN box) bound (openH box))))],T:=12}] [.keep [51,11,27,25,24,22,14,7,6,0,1,2,26,8] []] [yB (AV.sl 1 (List.drop (box.length-(8:Nat)) (bytesA box))=AV.sl 1 (bytesA (List.drop (box.length-(8:Nat)) box))) (congrArg (AV.sl 1) (bytesA_drop _ _)),yO ((↑box.length:Int)-8=(↑(box.length-(8:Nat)):Int)),yB (box.length-(8:Nat)≤(bytesA box).length) (by simp only [bytesA_len];omega),yB ((8:Nat)≤(bytesA (List.drop (box.length-(8:Nat)) box)).length) (by simp only [bytesA_len];omega),yB (List.take 8 (List.drop 0 (bytesA (List.drop (box.length-(8:Nat)) box)))=bytesA (List.drop (box.length-(8:Nat)) box)) (whole_get (by assumption)),yB ((bytesA (List.drop (box.length-(8:Nat)) box)).length=(8:Nat)) (by simp only [bytesA_len];omega),yI hsl,yR (8:Int),yO ((↑box.length:Int)-8=(↑(box.length-(8:Nat)):Int)),yO ((8:Nat)≤box.length-(8:Nat)),yB (box.length-(8:Nat)≤(bytesA box).length) (by simp only [bytesA_len];omega),yI (tag_ret key (openN box) bound (openH box) (by omega) (by omega)),yB (ArrEq IntKind.u8 (8:Nat) (bytesA (List.drop (box.length-(8:Nat)) box)) (bytesA (tagB key (openN box) bound (openH box))) !List.drop (box.length-(8:Nat)) box != tagB key (openN box) bound (openH box)) (arrEq_bytesN (List.drop (box.length-(8:Nat)) box) (tagB key (openN box) bound (openH box)) (by omega) (by omega))] ?_
  refine zN 51 (List.drop (box.length-(8:Nat)) box) (tagB key (openN box) bound (openH box)) (fun h5=>?_) (fun h5=>?_)
  ·have e:openE key bound box=14:=by unfold openE;rw [if_neg (by omega),if_neg (by omega),if_neg h5]
   refine zQ 1 [{}] [] ?_
   refine zR ?_
   refine then_r ?_
   refine zV [yB (bytesA (openD key bound box)= []) (by rw [openD,e];rfl),yJ 14 (openE key bound box) (by rw [e])]
  ·have e:openE key bound box=0:=by unfold openE;rw [if_neg (by omega),if_neg (by omega),if_pos h5]
   refine zK ?_
   refine then_n ?_
   refine zP 1 [yH [(4,{av:=some (AV.sl 1 (bytesA (openH box))),k:=8,m:=box.length-(8:Nat)}),(5,yV (AV.own 1 (bytesA (mixL key (openN box) (openH box)))))]] [.keep [7,6,51,11,27,25,24,22,14,0,1,2,26,8] [57]] [yI hsl,yR (8:Int),yO ((↑box.length:Int)-8=(↑(box.length-(8:Nat)):Int)),yO ((8:Nat)≤box.length-(8:Nat)),yB (box.length-(8:Nat)≤(bytesA box).length) (by simp only [bytesA_len];omega),yI (mixL_ret key (openN box) (openH box) (by omega)),yI (valR_bytes (mixL key (openN box) (openH box)))] ?_
   refine zR ?_
   refine zV [yB (bytesA (mixL key (openN box) (openH box))=bytesA (openD key bound box)) (by rw [openD,if_pos e]),yJ 0 (openE key bound box) (by rw [e])]
theorem refmix_ret (key nonce:UInt64) (text:List UInt8) (h:text.length≤1024):Ret Tryz.prog 108 [aw key,aw nonce,.sl 1 (bytesA text)] (.own 1 (bytesA (mixL key nonce text))):=by
 have hs:=stream_len key nonce text.length
 have hn:streamN text.length=text.length:=by unfold streamN;omega
 refine zO Tryz.func108 34 ?_
 refine zP 3 [{},yH [(3,{k:=text.length}),(4,yV (AV.own 1 (bytesA (stream key nonce (↑text.length:Int)))))],{}] [.keep [8,7,6,0,1,2] [14]] [yI (bytesA_len text),yI (refstream_ret key nonce ((↑text.length:Int))),yI (valR_bytes (stream key nonce (↑text.length:Int)))] ?_
 refine zS ?_
 refine zQ 1 [{}] [] ?_
 refine zB 0 ?_
 refine zL (fun (i:Nat)=>(⟨[(7,AV.ref 14),(6,AV.nil),(0,aw key),(1,aw nonce),(2,AV.sl 1 (bytesA text)),(9,ai i),(8,AV.ref 32)],[(14,⟨1,true,false,bytesA (stream key nonce (↑text.length:Int))⟩),(32,⟨1,true,false,bytesA ((List.range i).map fun i=>(stream key nonce text.length).getD i 0^^^text.getD i 0)⟩)]⟩:AS)) (fun i=>(i≤text.length)) (fun i=>(text.length-i)) (0) ?_ (zW [.nil 8 32 1,.keep [7,6,0,1,2,9,8] [14,32]]) ?_
 ·omega
 intro i hi
 refine zS ?_
 refine zP 1 [yH [(2,{k:=text.length})]] [.keep [18,7,6,0,1,2,9,8] [14,32]] [yI (bytesA_len text)] ?_
 refine zD 18 ((↑i:Int)<(↑text.length:Int)) (fun h1=>?_) (fun h1=>?_)
 ·skip
  refine zK ?_
  refine then_n ?_
  refine zS ?_
  refine zB 1 ?_
  refine zX ({hs:=[(3,{k:=i}),(4,yV (ab (text.getD i 0))),(7,{k:=i}),(8,yV (ab ((stream key nonce (↑text.length:Int)).getD i 0))),(9,yV (ab (text.getD i (0:UInt8)^^^(stream key nonce (↑text.length:Int)).getD i 0))),(10,yV (AV.arr (bytesA [text.getD i (0:UInt8)^^^(stream key nonce (↑text.length:Int)).getD i 0]))),(11,yV (AV.arr (bytesA (List.map (fun i↦(stream key nonce (↑text.length:Int)).getD i (0:UInt8)^^^text.getD i 0) (List.range i)++ [text.getD i (0:UInt8)^^^(stream key nonce (↑text.length:Int)).getD i 0]))))],T:=11}) [yR (↑i:Int),yB (i<(bytesA text).length) (by simp only [bytesA_len];omega),yB ((bytesA text)[i]?=some (ab (text.getD i 0))) (bytesA_at (by omega)),yR (↑i:Int),yB (i<(bytesA (stream key nonce (↑text.length:Int))).length) (by simp only [bytesA_len];omega),yB ((bytesA (stream key nonce (↑text.length:Int)))[i]?=some (ab ((stream key nonce (↑text.length:Int)).getD i 0))) (bytesA_at (by omega)),yI (avb_xor (text.getD i 0) ((stream key nonce (↑text.length:Int)).getD i 0)),yR [ab (text.getD i (0:UInt8)^^^(stream key nonce (↑text.length:Int)).getD i 0)],yB (bytesA (List.map (fun i↦(stream key nonce (↑text.length:Int)).getD i (0:UInt8)^^^text.getD i 0) (List.range i))++bytesA [text.getD i (0:UInt8)^^^(stream key nonce (↑text.length:Int)).getD i 0]=bytesA (List.map (fun i↦(stream key nonce (↑text.length:Int)).getD i (0:UInt8)^^^text.getD i 0) (List.range i)++ [text.getD i (0:UInt8)^^^(stream key nonce (↑text.length:Int)).getD i 0])) (bytesA_app _ _),yB (((bytesA (List.map (fun i↦(stream key nonce (↑text.length:Int)).getD i (0:UInt8)^^^text.getD i 0) (List.range i))).length+(bytesA [text.getD i (0:UInt8)^^^(stream key nonce (↑text.length:Int)).getD i 0]).length)*(1:Nat)≤(140737488355328:Nat)) (by simp only [bytesA_len,List.length_cons,List.length_nil,List.length_map,List.length_range];omega)] ?_
  refine inb_n ?_
  refine then_n ?_
  refine zX (yH [(1,yV (ai ((↑i:Int)+1)))]) [yN ((↑i:Int)+1)] ?_
  refine round_n (i+1) (by omega) (by omega) (Weaks.of [.keep [7,6,0,1,2,9,8] [14,32]] (s1:=AS.mk [(7,AV.ref 14),(6,AV.nil),(0,aw key),(1,aw nonce),(2,AV.sl 1 (bytesA text)),(9,ai ((↑i:Int)+1)),(8,AV.ref 32)] [(14,Row.mk 1 true false (bytesA (stream key nonce (↑text.length:Int)))),(32,Row.mk 1 true false (bytesA (List.map (fun i↦(stream key nonce (↑text.length:Int)).getD i (0:UInt8)^^^text.getD i 0) (List.range i)++ [text.getD i (0:UInt8)^^^(stream key nonce (↑text.length:Int)).getD i 0])))]) (by kernel_rfl) (as_eq (f_cons rfl (f_cons rfl (f_cons rfl (f_cons rfl (f_cons rfl (f_cons rfl (f_cons rfl rfl))))))) (h_cons rfl (h_cons (congrArg bytesA (by rw [UInt8.xor_comm (text.getD i 0)];exact range_snoc (fun i=>(stream key nonce text.length).getD i 0^^^text.getD i 0) i)) rfl))))
 ·have e:i=text.length:=by omega
  subst e
  refine zE 0 ?_
  refine then_e ?_
  refine round_e ?_
  refine inb_e ?_
  refine then_n ?_
  refine zQ 1 [{}] [] ?_
  refine zR ?_
  refine zV [yR (bytesA (mixL key nonce text))]
theorem reftag_ret (key nonce:UInt64) (bound hidden:List UInt8) (h:bound.length≤5000) (h2:hidden.length≤5000):Ret Tryz.prog 109 [aw key,aw nonce,.sl 1 (bytesA bound),.sl 1 (bytesA hidden)] (aw (tagW key nonce bound hidden)):=by
 have hw:(words [nonce,u64 bound.length]).length=16:=by rw [words_len];rfl
 refine zO Tryz.func109 23 ?_
 refine zP 3 [{},yH [(2,{k:=bound.length}),(3,yV (aw (u64 (↑bound.length:Int)))),(4,yV (AV.arr (wordsA [nonce,u64 (↑bound.length:Int)]))),(5,yV (AV.own 1 (bytesA (words [nonce,u64 (↑bound.length:Int)]))))],yH [(3,{av:=some (AV.arr (bytesA (words [nonce,u64 (↑bound.length:Int)]++bound))),b:=false}),(5,{av:=some (AV.arr (bytesA (words [nonce,u64 (↑bound.length:Int)]++bound++hidden))),b:=false}),(6,yV (aw (mac key (6:Int) (words [nonce,u64 (↑bound.length:Int)]++bound++hidden))))]] [.keep [8,0,1,2,3] []] [yI (bytesA_len bound),yI (avw_conv ((↑bound.length:Int))),yR (wordsA [nonce,u64 (↑bound.length:Int)]),yI (refwords_ret [nonce,u64 (↑bound.length:Int)] (by simp only [List.length_cons,List.length_nil];omega)),yI (valR_bytes (words [nonce,u64 (↑bound.length:Int)])),yB (bytesA (words [nonce,u64 (↑bound.length:Int)])++bytesA bound=bytesA (words [nonce,u64 (↑bound.length:Int)]++bound)) (bytesA_app _ _),yB (plainR (bytesA bound)) (plainR_bytes _),yB (((bytesA (words [nonce,u64 (↑bound.length:Int)])).length+(bytesA bound).length)*(1:Nat)≤(140737488355328:Nat)) (by simp only [bytesA_len];omega),yB (bytesA (words [nonce,u64 (↑bound.length:Int)]++bound)++bytesA hidden=bytesA (words [nonce,u64 (↑bound.length:Int)]++bound++hidden)) (bytesA_app _ _),yB (plainR (bytesA hidden)) (plainR_bytes _),yB (((bytesA (words [nonce,u64 (↑bound.length:Int)]++bound)).length+(bytesA hidden).length)*(1:Nat)≤(140737488355328:Nat)) (by simp only [bytesA_len,List.length_append];omega),yI (refmac_ret key ((6:Int)) (words [nonce,u64 (↑bound.length:Int)]++bound++hidden) (by simp only [List.length_append];omega))] ?_
 refine zR ?_
 refine zV [yK (wv (mac key (6:Int) (words [nonce,u64 (↑bound.length:Int)]++bound++hidden))) (wv (tagW key nonce bound hidden)) (by rw [tagW,List.append_assoc])]
theorem refseal_ret (key nonce:UInt64) (bound text:List UInt8):Ret Tryz.prog 49 [aw key,aw nonce,.sl 1 (bytesA bound),.sl 1 (bytesA text)] (.tup [.own 1 (bytesA (sealD key nonce bound text)),ai (sealE bound text)]):=by
 have hm:=mixL_len key nonce text
 have hw:(words [nonce]).length=8:=by rw [words_len];rfl
 refine zO Tryz.func49 38 ?_
 refine zQ 1 [{}] [] ?_
 refine zS ?_
 refine (Classical.em ((↑text.length:Int)>1024)).elim (fun h1=>?_) (fun h1=>?_)
 ·have e:sealE bound text=8:=by unfold sealE;rw [if_pos (by omega)]
  refine zP 1 [yH [(1,{k:=text.length})]] [.keep [19,9,8,0,1,2,3] []] [yI (bytesA_len text),yT ((↑text.length:Int)>1024),yT ((↑text.length:Int)>1024),yT ((↑text.length:Int)>1024),yT ((↑text.length:Int)>1024)] ?_
  refine zT 19 ?_
  refine zQ 1 [{}] [] ?_
  refine zR ?_
  refine then_r ?_
  refine zV [yB (bytesA (sealD key nonce bound text)= []) (by rw [sealD,e];rfl),yJ 8 (sealE bound text) (by rw [e])]
 refine zP 1 [yH [(1,{k:=text.length}),(4,{g:=false}),(5,{k:=bound.length,g:=false}),(6,{g:=false}),(7,{b:=false})]] [.keep [19,9,8,0,1,2,3] []] [yI (bytesA_len text),yF ((↑text.length:Int)>1024),yF ((↑text.length:Int)>1024),yI (bytesA_len bound),yF ((↑text.length:Int)>1024),yF ((↑text.length:Int)>1024)] ?_
 refine zD 19 ((↑bound.length:Int)>1024) (fun h2=>?_) (fun h2=>?_)
 ·have e:sealE bound text=8:=by unfold sealE;rw [if_pos (by omega)]
  refine zQ 1 [{}] [] ?_
  refine zR ?_
  refine then_r ?_
  refine zV [yB (bytesA (sealD key nonce bound text)= []) (by rw [sealD,e];rfl),yJ 8 (sealE bound text) (by rw [e])]
 have e:sealE bound text=0:=by unfold sealE;rw [if_neg (by omega)]
 refine zK ?_
 refine then_n ?_
 refine zP 3 [yH [(3,yV (AV.own 1 (bytesA (mixL key nonce text))))],yH [(1,yV (AV.arr (wordsA [nonce]))),(2,yV (AV.own 1 (bytesA (words [nonce])))),(4,{av:=some (AV.arr (bytesA (words [nonce]++mixL key nonce text))),b:=false})],yH [(5,yV (aw (tagW key nonce bound (mixL key nonce text)))),(6,yV (AV.arr (wordsA [tagW key nonce bound (mixL key nonce text)]))),(7,yV (AV.own 1 (bytesA (words [tagW key nonce bound (mixL key nonce text)])))),(8,yV (AV.arr (bytesA (words [nonce]++mixL key nonce text++words [tagW key nonce bound (mixL key nonce text)]))))]] [.keep [9,8,10,19,0,1,2,3] [37,23]] [yI (refmix_ret key nonce text (by omega)),yI (valR_bytes (mixL key nonce text)),yR [aw nonce],yI (refwords_ret [nonce] (by simp only [List.length_cons,List.length_nil];omega)),yI (valR_bytes (words [nonce])),yB (bytesA (words [nonce])++bytesA (mixL key nonce text)=bytesA (words [nonce]++mixL key nonce text)) (bytesA_app _ _),yB (plainR (bytesA (mixL key nonce text))) (plainR_bytes _),yB (((bytesA (words [nonce])).length+(bytesA (mixL key nonce text)).length)*(1:Nat)≤(140737488355328:Nat)) (by simp only [bytesA_len];omega),yI (reftag_ret key nonce bound (mixL key nonce text) (by omega) (by omega)),yR [aw (tagW key nonce bound (mixL key nonce text))],yI (refwords_ret [tagW key nonce bound (mixL key nonce text)] (by simp only [List.length_cons,List.length_nil];omega)),yI (valR_bytes (words [tagW key nonce bound (mixL key nonce text)])),yB (bytesA (words [nonce]++mixL key nonce text)++bytesA (words [tagW key nonce bound (mixL key nonce text)])=bytesA (words [nonce]++mixL key nonce text++words [tagW key nonce bound (mixL key nonce text)])) (bytesA_app _ _),yB (((bytesA (words [nonce]++mixL key nonce text)).length+(bytesA (words [tagW key nonce bound (mixL key nonce text)])).length)*(1:Nat)≤(140737488355328:Nat)) (by simp only [bytesA_len,List.length_append,List.length_cons,List.length_nil,words_len];omega)] ?_
 refine zR ?_
 refine zV [yB (bytesA (words [nonce]++mixL key nonce text++words [tagW key nonce bound (mixL key nonce text)])=bytesA (sealD key nonce bound text)) (by rw [sealD,if_pos e,List.append_assoc];rfl),yJ 0 (sealE bound text) (by rw [e])]
theorem wstep_nat (x:UInt64) (c:UInt8) (h:x.toNat<72057594037927936):(wstep x c).toNat=x.toNat*256+c.toNat:=by
 have hc:=c.toNat_lt
 unfold wstep
 rw [UInt64.toNat_or,UInt64.toNat_shiftLeft]
 rw [show (8:UInt64).toNat%64=8 from rfl,Nat.mod_eq_of_lt (by rw [Nat.shiftLeft_eq];omega)]
 rw [show c.toUInt64.toNat=c.toNat by simp,←Nat.shiftLeft_add_eq_or_of_lt (by omega),Nat.shiftLeft_eq]
theorem wordOf8 (a b c d e f g h:UInt8):(wordOf [a,b,c,d,e,f,g,h]).toNat=((((((a.toNat*256+b.toNat)*256+c.toNat)*256+d.toNat)*256+e.toNat)*256+f.toNat)*256+g.toNat)*256+h.toNat:=by
 have ha:=a.toNat_lt;have hb:=b.toNat_lt;have hc:=c.toNat_lt;have hd:=d.toNat_lt
 have he:=e.toNat_lt;have hf:=f.toNat_lt;have hg:=g.toNat_lt
 have e1:(wstep 0 a).toNat=a.toNat:=by rw [wstep_nat _ _ (by simp)];simp
 have e2:=wstep_nat (wstep 0 a) b (by omega)
 have e3:=wstep_nat (wstep (wstep 0 a) b) c (by omega)
 have e4:=wstep_nat (wstep (wstep (wstep 0 a) b) c) d (by omega)
 have e5:=wstep_nat (wstep (wstep (wstep (wstep 0 a) b) c) d) e (by omega)
 have e6:=wstep_nat (wstep (wstep (wstep (wstep (wstep 0 a) b) c) d) e) f (by omega)
 have e7:=wstep_nat (wstep (wstep (wstep (wstep (wstep (wstep 0 a) b) c) d) e) f) g (by omega)
 have e8:=wstep_nat (wstep (wstep (wstep (wstep (wstep (wstep (wstep 0 a) b) c) d) e) f) g) h (by omega)
 show (wstep (wstep (wstep (wstep (wstep (wstep (wstep (wstep 0 a) b) c) d) e) f) g) h).toNat=_
 rw [e8,e7,e6,e5,e4,e3,e2,e1]
theorem byte_nat (x:UInt64) (k:UInt64) (hk:k.toNat<64):(x>>>k).toUInt8.toNat=x.toNat/2^k.toNat%256:=by
 rw [UInt64.toNat_toUInt8,UInt64.toNat_shiftRight,Nat.mod_eq_of_lt hk,Nat.shiftRight_eq_div_pow]
theorem wordOf_be (x:UInt64):wordOf (be x)=x:=by
 apply UInt64.toNat_inj.1
 unfold be
 rw [wordOf8]
 simp only [byte_nat x 56 (by decide),byte_nat x 48 (by decide),byte_nat x 40 (by decide),byte_nat x 32 (by decide),byte_nat x 24 (by decide),byte_nat x 16 (by decide),byte_nat x 8 (by decide),byte_nat x 0 (by decide)]
 have:=x.toNat_lt
 simp only [show (56:UInt64).toNat=56 from rfl,show (48:UInt64).toNat=48 from rfl,show (40:UInt64).toNat=40 from rfl,show (32:UInt64).toNat=32 from rfl,show (24:UInt64).toNat=24 from rfl,show (16:UInt64).toNat=16 from rfl,show (8:UInt64).toNat=8 from rfl,show (0:UInt64).toNat=0 from rfl]
 omega
theorem list_of8 {α:Type} {b:List α} (h:b.length=8):∃x0 x1 x2 x3 x4 x5 x6 x7,b= [x0,x1,x2,x3,x4,x5,x6,x7]:=by
 match b,h with
 | [x0,x1,x2,x3,x4,x5,x6,x7],_=>exact ⟨x0,x1,x2,x3,x4,x5,x6,x7,rfl⟩
theorem be_wordOf (b:List UInt8) (h:b.length=8):be (wordOf b)=b:=by
 obtain ⟨x0,x1,x2,x3,x4,x5,x6,x7,rfl⟩:=list_of8 h
 have hw:=wordOf8 x0 x1 x2 x3 x4 x5 x6 x7
 generalize wordOf [x0,x1,x2,x3,x4,x5,x6,x7]=w at hw
 have h0:=x0.toNat_lt;have h1:=x1.toNat_lt;have h2:=x2.toNat_lt;have h3:=x3.toNat_lt
 have h4:=x4.toNat_lt;have h5:=x5.toNat_lt;have h6:=x6.toNat_lt;have h7:=x7.toNat_lt
 unfold be
 congr 1
 ·apply UInt8.toNat_inj.1;rw [byte_nat w 56 (by decide),show (56:UInt64).toNat=56 from rfl];omega
 congr 1
 ·apply UInt8.toNat_inj.1;rw [byte_nat w 48 (by decide),show (48:UInt64).toNat=48 from rfl];omega
 congr 1
 ·apply UInt8.toNat_inj.1;rw [byte_nat w 40 (by decide),show (40:UInt64).toNat=40 from rfl];omega
 congr 1
 ·apply UInt8.toNat_inj.1;rw [byte_nat w 32 (by decide),show (32:UInt64).toNat=32 from rfl];omega
 congr 1
 ·apply UInt8.toNat_inj.1;rw [byte_nat w 24 (by decide),show (24:UInt64).toNat=24 from rfl];omega
 congr 1
 ·apply UInt8.toNat_inj.1;rw [byte_nat w 16 (by decide),show (16:UInt64).toNat=16 from rfl];omega
 congr 1
 ·apply UInt8.toNat_inj.1;rw [byte_nat w 8 (by decide),show (8:UInt64).toNat=8 from rfl];omega
 congr 1
 ·apply UInt8.toNat_inj.1;rw [byte_nat w 0 (by decide),show (0:UInt64).toNat=0 from rfl];omega
theorem words1 (x:UInt64):words [x]=be x:=by simp [words]
theorem wordOf_eq {b:List UInt8} (h:b.length=8) (x:UInt64):wordOf b=x↔b=words [x]:=by
 rw [words1]
 constructor
 ·rintro rfl;exact (be_wordOf b h).symm
 ·rintro rfl;exact wordOf_be x
theorem refopen_ret (key:UInt64) (bound box:List UInt8):Ret Tryz.prog 64 [aw key,.sl 1 (bytesA bound),.sl 1 (bytesA box)] (.tup [.own 1 (bytesA (openD key bound box)),ai (openE key bound box)]):=by
 refine Ret.len 2 rfl fun hlen=>?_
 rw [bytesA_len] at hlen
 refine zO Tryz.func64 45 ?_
 refine zQ 1 [{}] [] ?_
 refine zS ?_
 refine zP 1 [yH [(1,{k:=box.length})]] [.keep [12,7,6,0,1,2] []] [yI (bytesA_len box)] ?_
 refine zD 12 ((↑box.length:Int)<16) (fun h1=>?_) (fun h1=>?_)
 ·have e:openE key bound box=1:=by unfold openE;rw [if_pos (by omega)]
  refine zQ 1 [{}] [] ?_
  refine zR ?_
  refine then_r ?_
  refine zV [yB (bytesA (openD key bound box)= []) (by rw [openD,e];rfl),yJ 1 (openE key bound box) (by rw [e])]
 refine zK ?_
 refine then_n ?_
 refine zS ?_
 refine (Classical.em ((↑box.length:Int)>1040)).elim (fun h2=>?_) (fun h2=>?_)
 ·have e:openE key bound box=8:=by unfold openE;rw [if_neg (by omega),if_pos (by omega)]
  refine zP 1 [yH [(1,{k:=box.length})]] [.keep [20,12,7,6,0,1,2] []] [yI (bytesA_len box),yT ((↑box.length:Int)>1040),yT ((↑box.length:Int)>1040),yT ((↑box.length:Int)>1040),yT ((↑box.length:Int)>1040)] ?_
  refine zT 20 ?_
  refine zQ 1 [{}] [] ?_
  refine zR ?_
  refine then_r ?_
  refine zV [yB (bytesA (openD key bound box)= []) (by rw [openD,e];rfl),yJ 8 (openE key bound box) (by rw [e])]
 refine zP 1 [yH [(1,{k:=box.length}),(4,{g:=false}),(5,{k:=bound.length,g:=false}),(6,{g:=false}),(7,{b:=false})]] [.keep [20,12,7,6,0,1,2] []] [yI (bytesA_len box),yF ((↑box.length:Int)>1040),yF ((↑box.length:Int)>1040),yI (bytesA_len bound),yF ((↑box.length:Int)>1040),yF ((↑box.length:Int)>1040)] ?_
 refine zD 20 ((↑bound.length:Int)>1024) (fun h3=>?_) (fun h3=>?_)
 ·have e:openE key bound box=8:=by unfold openE;rw [if_neg (by omega),if_pos (by omega)]
  refine zQ 1 [{}] [] ?_
  refine zR ?_
  refine then_r ?_
  refine zV [yB (bytesA (openD key bound box)= []) (by rw [openD,e];rfl),yJ 8 (openE key bound box) (by rw [e])]
 have ht:(box.take 8).length=8:=by rw [List.length_take];omega
 have hh:(openH box).length=box.length-16:=by unfold openH;rw [List.length_take,List.length_drop];omega
 have hsl:AV.sl 1 (((bytesA box).drop 8).take (box.length-8-8))=AV.sl 1 (bytesA (openH box)):=by rw [bytesA_drop,bytesA_take];rfl
 have hbl:(box.drop (box.length-8)).length=8:=by rw [List.length_drop];omega
 have hN:wordOf (box.take 8)=openN box:=rfl
 have hq:wordOf (box.drop (box.length-8))=tagW key (openN box) bound (openH box)↔box.drop (box.length-8)=tagB key (openN box) bound (openH box):=wordOf_eq hbl _
 refine zK ?_
 refine then_n ?_
 refine zP 1 [{hs:=[(1,{av:=some (AV.sl 1 (bytesA (List.take 8 box))),m:=8}),(2,yV (aw (wordOf (List.take 8 box)))),(5,{k:=box.length}),(6,yV (ai ((↑box.length:Int)-8))),(7,{av:=some (AV.sl 1 (bytesA (openH box))),k:=8,m:=box.length-(8:Nat)})],T:=9}] [.keep [9,8,20,12,7,6,0,1,2] []] [yB (AV.sl 1 (List.take 8 (bytesA box))=AV.sl 1 (bytesA (List.take 8 box))) (congrArg (AV.sl 1) (bytesA_take _ _)),yR (8:Int),yB ((8:Nat)≤(bytesA box).length) (by simp only [bytesA_len];omega),yI (refword_ret (List.take 8 box) (by assumption)),yI (bytesA_len box),yN ((↑box.length:Int)-8),yI hsl,yR (8:Int),yO ((↑box.length:Int)-8=(↑(box.length-(8:Nat)):Int)),yO ((8:Nat)≤box.length-(8:Nat)),yB (box.length-(8:Nat)≤(bytesA box).length) (by simp only [bytesA_len];omega)] ?_
 refine zS ?_
 refine zP 1 [yH [(2,{k:=box.length}),(3,yV (ai ((↑box.length:Int)-8))),(4,{av:=some (AV.sl 1 (bytesA (List.drop (box.length-(8:Nat)) box))),k:=box.length-(8:Nat)}),(5,yV (aw (wordOf (List.drop (box.length-(8:Nat)) box)))),(10,yV (aw (tagW key (wordOf (List.take 8 box)) bound (openH box)))),(11,yV (ao (wordOf (List.drop (box.length-(8:Nat)) box) != tagW key (wordOf (List.take 8 box)) bound (openH box))))]] [.keep [40,9,8,20,12,7,6,0,1,2] []] [yI (bytesA_len box),yN ((↑box.length:Int)-8),yB (AV.sl 1 (List.drop (box.length-(8:Nat)) (bytesA box))=AV.sl 1 (bytesA (List.drop (box.length-(8:Nat)) box))) (congrArg (AV.sl 1) (bytesA_drop _ _)),yO ((↑box.length:Int)-8=(↑(box.length-(8:Nat)):Int)),yB (box.length-(8:Nat)≤(bytesA box).length) (by simp only [bytesA_len];omega),yI (refword_ret (List.drop (box.length-(8:Nat)) box) (by assumption)),yI (reftag_ret key (wordOf (List.take 8 box)) bound (openH box) (by omega) (by omega)),yI (avw_ne (wordOf (List.drop (box.length-(8:Nat)) box)) (tagW key (wordOf (List.take 8 box)) bound (openH box)))] ?_
 refine zN 40 (wordOf (List.drop (box.length-(8:Nat)) box)) (tagW key (wordOf (List.take 8 box)) bound (openH box)) (fun h5=>?_) (fun h5=>?_)
 ·have e:openE key bound box=14:=by unfold openE;rw [if_neg (by omega),if_neg (by omega),if_neg (fun h=>h5 (hq.2 (h.trans rfl)))]
  refine zQ 1 [{}] [] ?_
  refine zR ?_
  refine then_r ?_
  refine zV [yB (bytesA (openD key bound box)= []) (by rw [openD,e];rfl),yJ 14 (openE key bound box) (by rw [e])]
 ·have e:openE key bound box=0:=by unfold openE;rw [if_neg (by omega),if_neg (by omega),if_pos ((hq.1 h5).trans rfl)]
  refine zK ?_
  refine then_n ?_
  refine zP 1 [yH [(3,yV (AV.own 1 (bytesA (mixL key (wordOf (List.take 8 box)) (openH box)))))]] [.keep [7,6,40,9,8,20,12,0,1,2] [44]] [yI (refmix_ret key (wordOf (List.take 8 box)) (openH box) (by omega)),yI (valR_bytes (mixL key (wordOf (List.take 8 box)) (openH box)))] ?_
  refine zR ?_
  refine zV [yB (bytesA (mixL key (wordOf (List.take 8 box)) (openH box))=bytesA (openD key bound box)) (by rw [openD,if_pos e];rfl),yJ 0 (openE key bound box) (by rw [e])]
end Go.Proofs.YtejpabdmiagnnaaGreatDoor
