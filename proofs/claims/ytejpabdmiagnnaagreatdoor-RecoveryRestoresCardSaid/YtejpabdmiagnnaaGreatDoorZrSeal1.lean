import Derived.Test.YtejpabdmiagnnaaGreatDoorZrV8
import Derived.Test.YtejpabdmiagnnaaGreatDoorZrCast
set_option linter.all false
namespace Go.Proofs.YtejpabdmiagnnaaGreatDoor
open Go.RowKit
set_option maxRecDepth 100000
set_option maxHeartbeats 4000000
set_option linter.unusedVariables false
def bytesC (b:List UInt8):List AV:=[.sl 1 (bytesA b)]
def lensum (l:List (List UInt8)):Nat:=(l.map List.length).foldr (· + ·) 0
theorem lensum_take (l:List (List UInt8)) (i:Nat) (h:i<l.length):lensum (l.take (i+1))=lensum (l.take i)+(l.getD i default).length:=by
 induction l generalizing i with
 | nil=>simp at h
 | cons a l ih =>
  cases i with
  | zero=>simp [lensum]
  | succ i =>
   have:=ih i (by simpa using h)
   simp [lensum] at this ⊢
   omega
theorem lensum_le (l:List (List UInt8)) (i:Nat):lensum (l.take i)≤lensum l:=by
 induction l generalizing i with
 | nil=>simp [lensum]
 | cons a l ih =>
  cases i with
  | zero=>simp [lensum]
  | succ i=>have:=ih i;simp [lensum] at this ⊢;omega
theorem flat_take (l:List (List UInt8)) (i:Nat) (h:i<l.length):(l.take i).flatten++l.getD i default=(l.take (i+1)).flatten:=by
 rw [List.take_add_one,List.flatten_append]
 simp [h]
theorem flat_len (l:List (List UInt8)):l.flatten.length=lensum l:=by
 induction l with
 | nil=>rfl
 | cons a l ih=>simp [lensum,ih]
theorem concat_ret (l:List (List UInt8)) (h:lensum l≤70368744177664) (h2:l.length≤1000):Ret Tryz.prog 74 [.sl 1 (encA bytesC l)] (.own 1 (bytesA l.flatten)):=by
 have hl:(encA bytesC l).length=l.length:=by rw [encA_len (e:=1) (fun _=>rfl),Nat.mul_one]
 have hat:∀i,i<l.length->(encA bytesC l)[i]?=some (.sl 1 (bytesA (l.getD i default))):=fun i hi=>by
  have:=encA_at (f:=bytesC) (e:=1) (fun _=>rfl) (j:=0) hi rfl
  rwa [Nat.mul_one,Nat.add_zero] at this
 have ht:l.take l.length=l:=List.take_of_length_le (Nat.le_refl _)
 refine zO Tryz.func74 36 ?_
 refine zQ 2 [{},{}] [] ?_
 refine zS ?_
 refine zQ 1 [yH [(1,{k:=(encA bytesC l).length})]] [yR ((encA bytesC l).length)] ?_
 refine zB 0 ?_
 refine zL (fun (i:Nat)=>(⟨[(10,ai (↑(encA bytesC l).length:Int)),(9,AV.sl 1 (encA bytesC l)),(2,AV.nil),(0,AV.sl 1 (encA bytesC l)),(11,ai i),(3,ai (lensum (l.take i)))],[]⟩:AS)) (fun i=>(i≤l.length)) (fun i=>(l.length-i)) (0) ?_ (zW [.keep [10,9,2,0,11,3] []]) ?_
 ·omega
 intro i hi
 have hle:=lensum_le l i
 have hle1:=lensum_le l (i+1)
 refine zQ 1 [{}] [] ?_
 refine zS ?_
 refine zD 12 ((↑i:Int)<(↑(encA bytesC l).length:Int)) (fun h3=>?_) (fun h3=>?_)
 ·have hi':i<l.length:=by omega
  have h4:=lensum_take l i hi'
  refine zK ?_
  refine then_n ?_
  refine zS ?_
  refine zB 1 ?_
  refine zP 3 [yH [(0,{k:=i}),(1,yV (AV.sl 1 (bytesA (l.getD i default))))],yH [(2,{k:=(l.getD i default).length}),(3,yV (ai ((↑(lensum (List.take i l)):Int)+(↑(l.getD i default).length:Int))))],{}] [.keep [20,3,5,12,10,9,2,0,11] []] [yR (↑i:Int),yO (i<(encA bytesC l).length),yB ((encA bytesC l)[i]?=some (AV.sl 1 (bytesA (l.getD i default)))) (hat i (by omega)),yI (bytesA_len (l.getD i default)),yN ((↑(lensum (List.take i l)):Int)+(↑(l.getD i default).length:Int))] ?_
  refine zFd 20 ((↑(lensum (List.take i l)):Int)+(↑(l.getD i default).length:Int)<0) ?_
  refine zK ?_
  refine inb_n ?_
  refine then_n ?_
  refine zX (yH [(0,yV (ai ((↑i:Int)+1)))]) [yN ((↑i:Int)+1)] ?_
  refine round_n (i+1) (by assumption) (by omega) (Weaks.of [.keep [10,9,2,0,11,3] []] (s1:=AS.mk [(10,ai (↑(encA bytesC l).length:Int)),(9,AV.sl 1 (encA bytesC l)),(2,AV.nil),(0,AV.sl 1 (encA bytesC l)),(11,ai ((↑i:Int)+1)),(3,ai ((↑(lensum (List.take i l)):Int)+(↑(l.getD i default).length:Int)))] []) (by kernel_rfl) (as_eq (f_cons rfl (f_cons rfl (f_cons rfl (f_cons rfl (f_cons (congrArg (fun n=>AV.val (.int .i64 n)) (by omega)) (f_cons (congrArg (fun n=>AV.val (.int .i64 n)) (by omega)) rfl)))))) rfl))
 ·have e:i=l.length:=by omega
  subst e
  rw [ht]
  refine zE 0 ?_
  refine then_e ?_
  refine round_e ?_
  refine inb_e ?_
  refine then_n ?_
  refine zP 1 [yH [(1,yV (AV.own 1 (bytesA [])))]] [.keep [6,12,10,9,2,0,11,3] [24]] [yI (grow_ret (lensum l) (by assumption)),yI (valR_bytes [])] ?_
  refine zS ?_
  refine zQ 1 [yH [(1,{k:=(encA bytesC l).length})]] [yR ((encA bytesC l).length)] ?_
  refine zB 2 ?_
  refine zL (fun (i:Nat)=>(⟨[(26,ai (↑(encA bytesC l).length:Int)),(25,AV.sl 1 (encA bytesC l)),(12,ao (decide ((↑l.length:Int)<(↑(encA bytesC l).length:Int)))),(10,ai (↑(encA bytesC l).length:Int)),(9,AV.sl 1 (encA bytesC l)),(2,AV.nil),(0,AV.sl 1 (encA bytesC l)),(11,ai (↑l.length:Int)),(3,ai (↑(lensum l):Int)),(27,ai i),(6,AV.ref 33)],[(33,⟨1,true,false,bytesA (l.take i).flatten⟩)]⟩:AS)) (fun i=>(i≤l.length)) (fun i=>(l.length-i)) (0) ?_ (zW [.ren 24 33,.keep [26,25,12,10,9,2,0,11,3,27,6] [33]]) ?_
  ·omega
  intro i hi
  have hle:=lensum_le l i
  have hle1:=lensum_le l (i+1)
  have hfl:=flat_len (l.take i)
  refine zQ 1 [{}] [] ?_
  refine zS ?_
  refine zD 28 ((↑i:Int)<(↑(encA bytesC l).length:Int)) (fun h3=>?_) (fun h3=>?_)
  ·have hi':i<l.length:=by omega
   have h4:=lensum_take l i hi'
   have h5:=flat_take l i hi'
   refine zK ?_
   refine then_n ?_
   refine zS ?_
   refine zB 3 ?_
   refine zP 1 [yH [(0,{k:=i}),(1,yV (AV.sl 1 (bytesA (l.getD i default))))]] [.keep [8,28,26,25,12,10,9,2,0,11,3,27,6] [33]] [yR (↑i:Int),yO (i<(encA bytesC l).length),yB ((encA bytesC l)[i]?=some (AV.sl 1 (bytesA (l.getD i default)))) (hat i (by omega))] ?_
   refine zX (yH [(2,{av:=some (AV.arr (bytesA ((List.take i l).flatten++l.getD i default))),b:=false})]) [yB (bytesA (List.take i l).flatten++bytesA (l.getD i default)=bytesA ((List.take i l).flatten++l.getD i default)) (bytesA_app _ _),yB (plainR (bytesA (l.getD i default))) (plainR_bytes _),yB (((bytesA (List.take i l).flatten).length+(bytesA (l.getD i default)).length)*(1:Nat)≤(140737488355328:Nat)) (by simp only [bytesA_len];omega)] ?_
   refine inb_n ?_
   refine then_n ?_
   refine zX (yH [(0,yV (ai ((↑i:Int)+1)))]) [yN ((↑i:Int)+1)] ?_
   refine round_n (i+1) (by assumption) (by omega) (Weaks.of [.keep [26,25,12,10,9,2,0,11,3,27,6] [33]] (s1:=AS.mk [(26,ai (↑(encA bytesC l).length:Int)),(25,AV.sl 1 (encA bytesC l)),(12,ao (decide ((↑l.length:Int)<(↑(encA bytesC l).length:Int)))),(10,ai (↑(encA bytesC l).length:Int)),(9,AV.sl 1 (encA bytesC l)),(2,AV.nil),(0,AV.sl 1 (encA bytesC l)),(11,ai (↑l.length:Int)),(3,ai (↑(lensum l):Int)),(27,ai ((↑i:Int)+1)),(6,AV.ref 33)] [(33,Row.mk 1 true false (bytesA ((List.take i l).flatten++l.getD i default)))]) (by kernel_rfl) (as_eq (f_cons rfl (f_cons rfl (f_cons rfl (f_cons rfl (f_cons rfl (f_cons rfl (f_cons rfl (f_cons rfl (f_cons rfl (f_cons rfl (f_cons rfl rfl))))))))))) (h_cons (congrArg bytesA h5) rfl)))
  ·have e:i=l.length:=by omega
   subst e
   refine zE 2 ?_
   refine then_e ?_
   refine round_e ?_
   refine inb_e ?_
   refine then_n ?_
   refine zQ 1 [{}] [] ?_
   refine zR ?_
   refine zV [yB (bytesA (List.take l.length l).flatten=bytesA l.flatten) (by rw [ht])]
theorem u64_succ (k:Int):u64 k+1=u64 (k+1):=by
 unfold u64;rw [UInt64.ofInt_add];rfl
theorem smix_get {A B:List UInt8} {j:Nat} (ha:j<A.length):(A.take j++B.drop j).getD j 0=B.getD j 0:=by
 rw [List.getD_eq_getElem?_getD,List.getElem?_append_right (by rw [List.length_take];omega),List.length_take,Nat.min_eq_left (by omega),Nat.sub_self,List.getElem?_drop,Nat.add_zero,List.getD_eq_getElem?_getD]
theorem smix_set {A B:List UInt8} {j:Nat} (c:UInt8) (ha:j<A.length) (hb:j<B.length) (hc:c=A.getD j 0):(A.take j++B.drop j).set j c=A.take (j+1)++B.drop (j+1):=by
 rw [List.set_append_right _ _ (by rw [List.length_take];omega),List.length_take,Nat.min_eq_left (by omega),Nat.sub_self,List.drop_eq_getElem_cons hb,List.set_cons_zero,List.take_add_one,hc,List.getD_eq_getElem?_getD,List.getElem?_eq_getElem ha,Option.getD_some,List.append_assoc]
 rfl
theorem map_range_getD {α:Type} (g:Nat->α) (d:α) {j n:Nat} (h:j<n):((List.range n).map g).getD j d=g j:=by
 rw [List.getD_eq_getElem?_getD,List.getElem?_map,List.getElem?_range h];rfl
theorem concat3_ret (a b c:List UInt8) (h:a.length+b.length+c.length≤1000000):Ret Tryz.prog 74 [.sl 1 [.sl 1 (bytesA a),.sl 1 (bytesA b),.sl 1 (bytesA c)]] (.own 1 (bytesA (a++(b++c)))):=by
 have:=concat_ret [a,b,c] (by simp [lensum];omega) (by simp)
 rw [show [a,b,c].flatten=a++(b++c) by simp] at this
 exact this
theorem stream_ret (key nonce:UInt64) (n:Int):Ret Tryz.prog 123 [aw key,aw nonce,ai n] (.own 1 (bytesA (stream key nonce n))):=by
 generalize hm:streamN n=m
 have hv:(if 1024<if 0>n then 0 else n then 1024 else if 0>n then 0 else n)=(m:Int):=by
  rw [←hm];unfold streamN;split<;>split at* <;> omega
 have hm2:m≤1024:=by rw [←hm];unfold streamN;omega
 refine zO Tryz.func123 36 ?_
 refine zP 3 [{},yH [(2,yV (ai (↑m:Int)))],yH [(1,yV (ai ((↑m:Int)+8))),(2,{av:=some (AV.arr (bytesA (List.replicate (0:Nat) 0))),k:=0,m:=m+(8:Nat)})]] [.keep [7,2,6,0,1] [15]] [yB (ai (if (1024:Int)<if (0:Int)>n then (0:Int) else n then (1024:Int) else if (0:Int)>n then (0:Int) else n)=ai (↑m:Int)) (congrArg (fun n=>AV.val (.int .i64 n)) hv),yN ((↑m:Int)+8),yB (List.replicate (0:Nat) (AV.val (Value.int .u8 0))=bytesA (List.replicate (0:Nat) 0)) (bytesA_rep _),yR (0:Int),yR ((↑m:Int)+8),yO ((0:Nat)≤m+(8:Nat)),yO ((1:Nat)*(m+(8:Nat))≤(281474976710656:Nat)),yB (m+(8:Nat)≤maxLen) (by unfold maxLen;omega)] ?_
 refine zS ?_
 refine zQ 1 [{}] [] ?_
 refine zB 0 ?_
 refine zL (fun (k:Nat)=>(⟨[(2,ai (↑m:Int)),(6,AV.nil),(0,aw key),(1,aw nonce),(8,aw (u64 k)),(7,AV.ref 32)],[(32,⟨1,true,false,bytesA (strm key nonce k)⟩)]⟩:AS)) (fun k=>(8*k<m+8)) (fun k=>(m+8-8*k)) (0) ?_ (zW [.ren 15 32,.keep [2,6,0,1,8,7] [32]]) ?_
 ·omega
 intro k hk
 have hl:=strm_len key nonce k
 refine zS ?_
 refine zP 1 [yH [(1,{k:=(strm key nonce k).length})]] [.keep [19,2,6,0,1,8,7] [32]] [yI (bytesA_len (strm key nonce k))] ?_
 refine zD 19 ((↑(strm key nonce k).length:Int)<(↑m:Int)) (fun h1=>?_) (fun h1=>?_)
 ·skip
  refine zK ?_
  refine then_n ?_
  refine zS ?_
  refine zB 1 ?_
  refine zP 1 [yH [(3,yV (AV.arr (wordsA [nonce,u64 (↑k:Int)]))),(4,yV (AV.own 1 (bytesA (words [nonce,u64 (↑k:Int)])))),(5,yV (aw (mac key (5:Int) (words [nonce,u64 (↑k:Int)]))))]] [.keep [9,19,2,6,0,1,8,7] [32]] [yR (wordsA [nonce,u64 (↑k:Int)]),yI (words_ret [nonce,u64 (↑k:Int)] (by simp only [List.length_cons,List.length_nil];omega)),yI (valR_bytes (words [nonce,u64 (↑k:Int)])),yI (mac_ret key ((5:Int)) (words [nonce,u64 (↑k:Int)]))] ?_
  refine zX (yH [(2,yV (AV.arr (wordsA [mac key (5:Int) (words [nonce,u64 (↑k:Int)])]))),(3,yV (AV.own 1 (bytesA (words [mac key (5:Int) (words [nonce,u64 (↑k:Int)])])))),(4,yV (AV.arr (bytesA (strm key nonce k++words [mac key (5:Int) (words [nonce,u64 (↑k:Int)])]))))]) [yR [aw (mac key (5:Int) (words [nonce,u64 (↑k:Int)]))],yI (words_ret [mac key (5:Int) (words [nonce,u64 (↑k:Int)])] (by simp only [List.length_cons,List.length_nil];omega)),yI (valR_bytes (words [mac key (5:Int) (words [nonce,u64 (↑k:Int)])])),yB (bytesA (strm key nonce k)++bytesA (words [mac key (5:Int) (words [nonce,u64 (↑k:Int)])])=bytesA (strm key nonce k++words [mac key (5:Int) (words [nonce,u64 (↑k:Int)])])) (bytesA_app _ _),yB (((bytesA (strm key nonce k)).length+(bytesA (words [mac key (5:Int) (words [nonce,u64 (↑k:Int)])])).length)*(1:Nat)≤(140737488355328:Nat)) (by simp only [bytesA_len,List.length_cons,List.length_nil,words_len];omega)] ?_
  refine inb_n ?_
  refine then_n ?_
  refine zX (yH [(1,yV (aw (u64 (↑k:Int)+1)))]) [yI (avw_add (u64 (↑k:Int)) 1)] ?_
  refine round_n (k+1) (by omega) (by omega) (Weaks.of [.keep [2,6,0,1,8,7] [32]] (s1:=AS.mk [(2,ai (↑m:Int)),(6,AV.nil),(0,aw key),(1,aw nonce),(8,aw (u64 (↑k:Int)+1)),(7,AV.ref 32)] [(32,Row.mk 1 true false (bytesA (strm key nonce k++words [mac key (5:Int) (words [nonce,u64 (↑k:Int)])])))]) (by kernel_rfl) (as_eq (f_cons rfl (f_cons rfl (f_cons rfl (f_cons rfl (f_cons (congrArg aw (u64_succ k)) (f_cons rfl rfl)))))) (h_cons rfl rfl)))
 ·have e:k=(m+7)/8:=by omega
  refine zE 0 ?_
  refine then_e ?_
  refine round_e ?_
  refine inb_e ?_
  refine then_n ?_
  refine zP 1 [yH [(2,{m:=m})]] [.keep [6,19,2,0,1,8,7] [32]] [yR (↑m:Int),yB (m≤(bytesA (strm key nonce k)).length) (by simp only [bytesA_len];omega)] ?_
  refine zR ?_
  refine zV [yB (List.take m (bytesA (strm key nonce k))=bytesA (stream key nonce n)) (by rw [bytesA_take,stream,hm,←e])]
def mixL (key nonce:UInt64) (text:List UInt8):List UInt8:=(List.range text.length).map fun i=>(stream key nonce text.length).getD i 0^^^text.getD i 0
theorem mixL_len (key nonce:UInt64) (text:List UInt8):(mixL key nonce text).length=text.length:=by simp [mixL]
theorem mixL_ret (key nonce:UInt64) (text:List UInt8) (h:text.length≤1024):Ret Tryz.prog 172 [aw key,aw nonce,.sl 1 (bytesA text)] (.own 1 (bytesA (mixL key nonce text))):=by
 have hs:=stream_len key nonce text.length
 have hn:streamN text.length=text.length:=by unfold streamN;omega
 have hm:=mixL_len key nonce text
 refine zO Tryz.func172 31 ?_
 refine zP 2 [{},yH [(3,{k:=text.length}),(4,yV (AV.own 1 (bytesA (stream key nonce (↑text.length:Int)))))]] [.keep [7,6,0,1,2] [13]] [yI (bytesA_len text),yI (stream_ret key nonce ((↑text.length:Int))),yI (valR_bytes (stream key nonce (↑text.length:Int)))] ?_
 refine zS ?_
 refine zQ 1 [yH [(1,{k:=(stream key nonce (↑text.length:Int)).length})]] [yI (bytesA_len (stream key nonce (↑text.length:Int)))] ?_
 refine zB 0 ?_
 refine zL (fun (i:Nat)=>(⟨[(15,ai (↑(stream key nonce (↑text.length:Int)).length:Int)),(7,AV.ref 13),(6,AV.nil),(0,aw key),(1,aw nonce),(2,AV.sl 1 (bytesA text)),(16,ai i)],[(13,⟨1,true,false,bytesA ((mixL key nonce text).take i++(stream key nonce text.length).drop i)⟩)]⟩:AS)) (fun i=>(i≤text.length)) (fun i=>(text.length-i)) (0) ?_ (Weaks.of [.keep [15,7,6,0,1,2,16] [13]] (s1:=AS.mk [(15,ai (↑(stream key nonce (↑text.length:Int)).length:Int)),(7,AV.ref 13),(6,AV.nil),(0,aw key),(1,aw nonce),(2,AV.sl 1 (bytesA text)),(16,ai 0)] [(13,Row.mk 1 true false (bytesA (stream key nonce (↑text.length:Int))))]) (by kernel_rfl) (as_eq (f_cons rfl (f_cons rfl (f_cons rfl (f_cons rfl (f_cons rfl (f_cons rfl (f_cons (by simp) rfl))))))) (h_cons (by simp) rfl))) ?_
 ·omega
 intro i hi
 have hlen:((mixL key nonce text).take i++(stream key nonce text.length).drop i).length=text.length:=by simp;omega
 refine zQ 1 [{}] [] ?_
 refine zS ?_
 refine zD 17 ((↑i:Int)<(↑(stream key nonce (↑text.length:Int)).length:Int)) (fun h1=>?_) (fun h1=>?_)
 ·skip
  refine zK ?_
  refine then_n ?_
  refine zS ?_
  refine zB 1 ?_
  refine zQ 1 [{}] [] ?_
  refine zX ({hs:=[(2,{k:=i}),(3,yV (ab ((List.take i (mixL key nonce text)++List.drop i (stream key nonce (↑text.length:Int))).getD i 0))),(6,{k:=i}),(7,yV (ab (text.getD i 0))),(8,yV (ab ((List.take i (mixL key nonce text)++List.drop i (stream key nonce (↑text.length:Int))).getD i (0:UInt8)^^^text.getD i 0))),(9,{k:=i}),(10,yV (AV.arr (bytesA ((List.take i (mixL key nonce text)++List.drop i (stream key nonce (↑text.length:Int))).set i ((List.take i (mixL key nonce text)++List.drop i (stream key nonce (↑text.length:Int))).getD i (0:UInt8)^^^text.getD i 0)))))],T:=8}) [yR (↑i:Int),yB (i<(bytesA (List.take i (mixL key nonce text)++List.drop i (stream key nonce (↑text.length:Int)))).length) (by simp only [bytesA_len];omega),yB ((bytesA (List.take i (mixL key nonce text)++List.drop i (stream key nonce (↑text.length:Int))))[i]?=some (ab ((List.take i (mixL key nonce text)++List.drop i (stream key nonce (↑text.length:Int))).getD i 0))) (bytesA_at (by omega)),yR (↑i:Int),yB (i<(bytesA text).length) (by simp only [bytesA_len];omega),yB ((bytesA text)[i]?=some (ab (text.getD i 0))) (bytesA_at (by omega)),yI (avb_xor ((List.take i (mixL key nonce text)++List.drop i (stream key nonce (↑text.length:Int))).getD i 0) (text.getD i 0)),yR (↑i:Int),yB (i<(bytesA (List.take i (mixL key nonce text)++List.drop i (stream key nonce (↑text.length:Int)))).length) (by simp only [bytesA_len];omega),yB ((bytesA (List.take i (mixL key nonce text)++List.drop i (stream key nonce (↑text.length:Int)))).set i (ab ((List.take i (mixL key nonce text)++List.drop i (stream key nonce (↑text.length:Int))).getD i (0:UInt8)^^^text.getD i 0))=bytesA ((List.take i (mixL key nonce text)++List.drop i (stream key nonce (↑text.length:Int))).set i ((List.take i (mixL key nonce text)++List.drop i (stream key nonce (↑text.length:Int))).getD i (0:UInt8)^^^text.getD i 0))) (bytesA_set _ _ _),yB (i+(1:Nat)≤(bytesA (List.take i (mixL key nonce text)++List.drop i (stream key nonce (↑text.length:Int)))).length) (by simp only [bytesA_len];omega)] ?_
  refine inb_n ?_
  refine then_n ?_
  refine zX (yH [(0,yV (ai ((↑i:Int)+1)))]) [yN ((↑i:Int)+1)] ?_
  refine round_n (i+1) (by omega) (by omega) (Weaks.of [.keep [15,7,6,0,1,2,16] [13]] (s1:=AS.mk [(15,ai (↑(stream key nonce (↑text.length:Int)).length:Int)),(7,AV.ref 13),(6,AV.nil),(0,aw key),(1,aw nonce),(2,AV.sl 1 (bytesA text)),(16,ai ((↑i:Int)+1))] [(13,Row.mk 1 true false (bytesA ((List.take i (mixL key nonce text)++List.drop i (stream key nonce (↑text.length:Int))).set i ((List.take i (mixL key nonce text)++List.drop i (stream key nonce (↑text.length:Int))).getD i (0:UInt8)^^^text.getD i 0))))]) (by kernel_rfl) (as_eq (f_cons rfl (f_cons rfl (f_cons rfl (f_cons rfl (f_cons rfl (f_cons rfl (f_cons rfl rfl))))))) (h_cons (congrArg bytesA (smix_set _ (by omega) (by omega) (by rw [smix_get (by omega)];unfold mixL;rw [map_range_getD _ _ (by omega)]))) rfl)))
 ·have e:i=text.length:=by omega
  subst e
  refine zE 0 ?_
  refine then_e ?_
  refine round_e ?_
  refine inb_e ?_
  refine then_n ?_
  refine zQ 1 [{}] [] ?_
  refine zR ?_
  refine zV [yB (bytesA (List.take text.length (mixL key nonce text)++List.drop text.length (stream key nonce (↑text.length:Int)))=bytesA (mixL key nonce text)) (congrArg bytesA (by rw [List.take_of_length_le (by omega),List.drop_eq_nil_of_le (by omega),List.append_nil]))]
def tagW (key nonce:UInt64) (bound hidden:List UInt8):UInt64:=mac key 6 (words [nonce,u64 bound.length]++(bound++hidden))
def tagB (key nonce:UInt64) (bound hidden:List UInt8):List UInt8:=words [tagW key nonce bound hidden]
theorem tagB_len (key nonce:UInt64) (bound hidden:List UInt8):(tagB key nonce bound hidden).length=8:=by rw [tagB,words_len];rfl
theorem tag_ret (key nonce:UInt64) (bound hidden:List UInt8) (h:bound.length≤5000) (h2:hidden.length≤5000):Ret Tryz.prog 171 [aw key,aw nonce,.sl 1 (bytesA bound),.sl 1 (bytesA hidden)] (.arr (bytesA (tagB key nonce bound hidden))):=by
 have hl:=tagB_len key nonce bound hidden
 have hw:(words [nonce,u64 bound.length]).length=16:=by rw [words_len];rfl
 refine zO Tryz.func171 27 ?_
 refine AWP.regsPX 3 [{hs:=[(0,{av:=some (AV.arr (bytesA (List.replicate (8:Nat) 0)))})]},{hs:=[(2,{k:=bound.length}),(3,{av:=some (aw (u64 (↑bound.length:Int)))}),(4,{av:=some (AV.arr (wordsA [nonce,u64 (↑bound.length:Int)]))}),(5,{av:=some (AV.own 1 (bytesA (words [nonce,u64 (↑bound.length:Int)])))}),(9,{av:=some (AV.own 1 (bytesA (words [nonce,u64 (↑bound.length:Int)]++(bound++hidden))))})]},{hs:=[(2,{av:=some (aw (mac key (6:Int) (words [nonce,u64 (↑bound.length:Int)]++(bound++hidden))))}),(3,{av:=some (AV.arr (wordsA [mac key (6:Int) (words [nonce,u64 (↑bound.length:Int)]++(bound++hidden))]))}),(4,{av:=some (AV.own 1 (bytesA (words [mac key (6:Int) (words [nonce,u64 (↑bound.length:Int)]++(bound++hidden))])))}),(6,{av:=some (AV.arr (bytesA (words [mac key (6:Int) (words [nonce,u64 (↑bound.length:Int)]++(bound++hidden))])))}),(7,{av:=some (AV.arr (bytesA (words [mac key (6:Int) (words [nonce,u64 (↑bound.length:Int)]++(bound++hidden))]))),k:=1})]}] [.keep [9,8,0,1,2,3] [8,19]] (by kernel_rfl) (C:=[[AV.val (Value.int .u8 0),AV.val (Value.int .u8 0),AV.val (Value.int .u8 0),AV.val (Value.int .u8 0),AV.val (Value.int .u8 0),AV.val (Value.int .u8 0),AV.val (Value.int .u8 0),AV.val (Value.int .u8 0)]=bytesA (List.replicate (8:Nat) 0),(bytesA bound).length=bound.length,AV.val (Value.int .u64 (IntKind.u64.wrap (↑bound.length:Int)))=aw (u64 (↑bound.length:Int)),[aw nonce,aw (u64 (↑bound.length:Int))]=wordsA [nonce,u64 (↑bound.length:Int)],Ret Tryz.prog (125:Nat) [AV.sl 1 (wordsA [nonce,u64 (↑bound.length:Int)])] (AV.own 1 (bytesA (words [nonce,u64 (↑bound.length:Int)]))),valR (bytesA (words [nonce,u64 (↑bound.length:Int)])),Ret Tryz.prog (74:Nat) [AV.sl 1 [AV.sl 1 (bytesA (words [nonce,u64 (↑bound.length:Int)])),AV.sl 1 (bytesA bound),AV.sl 1 (bytesA hidden)]] (AV.own 1 (bytesA (words [nonce,u64 (↑bound.length:Int)]++(bound++hidden)))),valR (bytesA (words [nonce,u64 (↑bound.length:Int)]++(bound++hidden))),Ret Tryz.prog (176:Nat) [aw key,ai 6,AV.sl 1 (bytesA (words [nonce,u64 (↑bound.length:Int)]++(bound++hidden)))] (aw (mac key (6:Int) (words [nonce,u64 (↑bound.length:Int)]++(bound++hidden)))),[aw (mac key (6:Int) (words [nonce,u64 (↑bound.length:Int)]++(bound++hidden)))]=wordsA [mac key (6:Int) (words [nonce,u64 (↑bound.length:Int)]++(bound++hidden))],Ret Tryz.prog (125:Nat) [AV.sl 1 (wordsA [mac key (6:Int) (words [nonce,u64 (↑bound.length:Int)]++(bound++hidden))])] (AV.own 1 (bytesA (words [mac key (6:Int) (words [nonce,u64 (↑bound.length:Int)]++(bound++hidden))]))),valR (bytesA (words [mac key (6:Int) (words [nonce,u64 (↑bound.length:Int)]++(bound++hidden))])),(8:Nat)≤(bytesA (words [mac key (6:Int) (words [nonce,u64 (↑bound.length:Int)]++(bound++hidden))])).length,List.take 8 (List.drop 0 (bytesA (words [mac key (6:Int) (words [nonce,u64 (↑bound.length:Int)]++(bound++hidden))])))=bytesA (words [mac key (6:Int) (words [nonce,u64 (↑bound.length:Int)]++(bound++hidden))]),(bytesA (words [mac key (6:Int) (words [nonce,u64 (↑bound.length:Int)]++(bound++hidden))])).length=(8:Nat),List.take 0 (bytesA (List.replicate (8:Nat) 0))++bytesA (words [mac key (6:Int) (words [nonce,u64 (↑bound.length:Int)]++(bound++hidden))])++List.drop ((0:Nat)+(bytesA (words [mac key (6:Int) (words [nonce,u64 (↑bound.length:Int)]++(bound++hidden))])).length) (bytesA (List.replicate (8:Nat) 0))=bytesA (words [mac key (6:Int) (words [nonce,u64 (↑bound.length:Int)]++(bound++hidden))]),(bytesA (words [mac key (6:Int) (words [nonce,u64 (↑bound.length:Int)]++(bound++hidden))])).length=(8:Nat),∀(x:AV),x∈bytesA (words [mac key (6:Int) (words [nonce,u64 (↑bound.length:Int)]++(bound++hidden))])->plain0 x=true,(0:Nat)+(bytesA (words [mac key (6:Int) (words [nonce,u64 (↑bound.length:Int)]++(bound++hidden))])).length≤(bytesA (List.replicate (8:Nat) 0)).length]) (by kernel_rfl) ⟨rfl,(bytesA_len _),(avw_conv ((↑bound.length:Int))),rfl,(words_ret ([nonce,u64 (↑bound.length:Int)]) (by simp only [List.length_cons,List.length_nil];omega)),(valR_bytes _),(concat3_ret (words [nonce,u64 (↑bound.length:Int)]) (bound) (hidden) (by omega)),(valR_bytes _),(mac_ret (key) ((6:Int)) (words [nonce,u64 (↑bound.length:Int)]++(bound++hidden))),rfl,(words_ret ([mac key (6:Int) (words [nonce,u64 (↑bound.length:Int)]++(bound++hidden))]) (by simp only [List.length_cons,List.length_nil];omega)),(valR_bytes _),(by simp only [bytesA_len,List.length_cons,words_len];omega),(whole_get (by assumption)),rfl,(whole_set (by simp only [bytesA_len,List.length_cons,List.length_nil,List.length_replicate,words_len])),rfl,(plainR_bytes _),(by simp only [bytesA_len,List.length_cons,List.length_nil,List.length_replicate,words_len];omega),trivial⟩ ?_
 refine zR ?_
 refine zV [yR (8:Nat),yR (bytesA (tagB key nonce bound hidden))]
def sealE (bound text:List UInt8):Int:=if 1024<text.length∨1024<bound.length then 8 else 0
def sealD (key nonce:UInt64) (bound text:List UInt8):List UInt8:=if sealE bound text=0 then words [nonce]++(mixL key nonce text++tagB key nonce bound (mixL key nonce text)) else []
theorem seal_ret (key nonce:UInt64) (bound text:List UInt8):Ret Tryz.prog 118 [aw key,aw nonce,.sl 1 (bytesA bound),.sl 1 (bytesA text)] (.tup [.own 1 (bytesA (sealD key nonce bound text)),ai (sealE bound text)]):=by
 have hm:=mixL_len key nonce text
 have ht:=tagB_len key nonce bound (mixL key nonce text)
 have hw:(words [nonce]).length=8:=by rw [words_len];rfl
 refine zO Tryz.func118 36 ?_
 refine zQ 1 [{}] [] ?_
 refine zS ?_
 refine (Classical.em ((↑text.length:Int)>1024)).elim (fun h1=>?_) (fun h1=>?_)
 ·have e:sealE bound text=8:=by unfold sealE;rw [if_pos (by omega)]
  refine zP 1 [yH [(1,{k:=text.length})]] [.keep [19,9,8,0,1,2,3] []] [yI (bytesA_len text),yT ((↑text.length:Int)>1024),yT ((↑text.length:Int)>1024),yT ((↑text.length:Int)>1024),yT ((↑text.length:Int)>1024)] ?_
  refine zT 19 ?_
  refine zQ 1 [{}] [] ?_
  refine zR ?_
  refine then_r ?_
  refine zV [yB (bytesA (sealD key nonce bound text)= []) (by rw [sealD,e];rfl),yJ 8 (sealE bound text) (by rw [e])]
 refine zP 1 [yH [(1,{k:=text.length}),(4,{g:=false}),(5,{k:=bound.length,g:=false}),(6,{g:=false}),(7,{b:=false})]] [.keep [19,9,8,0,1,2,3] []] [yI (bytesA_len text),yF ((↑text.length:Int)>1024),yF ((↑text.length:Int)>1024),yI (bytesA_len bound),yF ((↑text.length:Int)>1024),yF ((↑text.length:Int)>1024)] ?_
 refine zD 19 ((↑bound.length:Int)>1024) (fun h2=>?_) (fun h2=>?_)
 ·have e:sealE bound text=8:=by unfold sealE;rw [if_pos (by omega)]
  refine zQ 1 [{}] [] ?_
  refine zR ?_
  refine then_r ?_
  refine zV [yB (bytesA (sealD key nonce bound text)= []) (by rw [sealD,e];rfl),yJ 8 (sealE bound text) (by rw [e])]
 have e:sealE bound text=0:=by unfold sealE;rw [if_neg (by omega)]
 refine zK ?_
 refine then_n ?_
 refine AWP.regsPX 3 [{hs:=[(3,{av:=some (AV.own 1 (bytesA (mixL key nonce text)))})]},{hs:=[(4,{av:=some (AV.arr (bytesA (tagB key nonce bound (mixL key nonce text)))),b:=false}),(5,{av:=some (AV.arr (bytesA (List.replicate (8:Nat) 0)))}),(6,{av:=some (AV.arr (bytesA (tagB key nonce bound (mixL key nonce text)))),k:=1})]},{hs:=[(1,{av:=some (AV.arr (wordsA [nonce]))}),(2,{av:=some (AV.own 1 (bytesA (words [nonce])))}),(6,{av:=some (AV.own 1 (bytesA (words [nonce]++(mixL key nonce text++tagB key nonce bound (mixL key nonce text)))))})],T:=5}] [.keep [9,8,11,10,19,0,1,2,3] [35]] (by kernel_rfl) (C:=[Ret Tryz.prog (172:Nat) [aw key,aw nonce,AV.sl 1 (bytesA text)] (AV.own 1 (bytesA (mixL key nonce text))),valR (bytesA (mixL key nonce text)),Ret Tryz.prog (171:Nat) [aw key,aw nonce,AV.sl 1 (bytesA bound),AV.sl 1 (bytesA (mixL key nonce text))] (AV.arr (bytesA (tagB key nonce bound (mixL key nonce text)))),[AV.val (Value.int .u8 0),AV.val (Value.int .u8 0),AV.val (Value.int .u8 0),AV.val (Value.int .u8 0),AV.val (Value.int .u8 0),AV.val (Value.int .u8 0),AV.val (Value.int .u8 0),AV.val (Value.int .u8 0)]=bytesA (List.replicate (8:Nat) 0),List.take 0 (bytesA (List.replicate (8:Nat) 0))++bytesA (tagB key nonce bound (mixL key nonce text))++List.drop ((0:Nat)+(bytesA (tagB key nonce bound (mixL key nonce text))).length) (bytesA (List.replicate (8:Nat) 0))=bytesA (tagB key nonce bound (mixL key nonce text)),(bytesA (tagB key nonce bound (mixL key nonce text))).length=(8:Nat),∀(x:AV),x∈bytesA (tagB key nonce bound (mixL key nonce text))->plain0 x=true,(0:Nat)+(bytesA (tagB key nonce bound (mixL key nonce text))).length≤(bytesA (List.replicate (8:Nat) 0)).length,[aw nonce]=wordsA [nonce],Ret Tryz.prog (125:Nat) [AV.sl 1 (wordsA [nonce])] (AV.own 1 (bytesA (words [nonce]))),valR (bytesA (words [nonce])),(bytesA (tagB key nonce bound (mixL key nonce text))).length=(8:Nat),(8:Nat)≤maxLen,Ret Tryz.prog (74:Nat) [AV.sl 1 [AV.sl 1 (bytesA (words [nonce])),AV.sl 1 (bytesA (mixL key nonce text)),AV.sl 1 (bytesA (tagB key nonce bound (mixL key nonce text)))]] (AV.own 1 (bytesA (words [nonce]++(mixL key nonce text++tagB key nonce bound (mixL key nonce text))))),valR (bytesA (words [nonce]++(mixL key nonce text++tagB key nonce bound (mixL key nonce text))))]) (by kernel_rfl) ⟨(mixL_ret (key) (nonce) (text) (by omega)),(valR_bytes _),(tag_ret (key) (nonce) (bound) (mixL key nonce text) (by omega) (by omega)),rfl,(whole_set (by simp only [bytesA_len,List.length_replicate,tagB_len])),rfl,(plainR_bytes _),(by simp only [bytesA_len,List.length_replicate];omega),rfl,(words_ret ([nonce]) (by simp only [List.length_cons,List.length_nil];omega)),(valR_bytes _),rfl,(by decide),(concat3_ret (words [nonce]) (mixL key nonce text) (tagB key nonce bound (mixL key nonce text)) (by omega)),(valR_bytes _),trivial⟩ ?_
 refine zR ?_
 refine zV [yB (bytesA (words [nonce]++(mixL key nonce text++tagB key nonce bound (mixL key nonce text)))=bytesA (sealD key nonce bound text)) (by rw [sealD,if_pos e]),yJ 0 (sealE bound text) (by rw [e])]
end Go.Proofs.YtejpabdmiagnnaaGreatDoor
